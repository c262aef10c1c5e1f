/-
  Texts of one proof, laid together: Rc Rd Re Rf Rg Rh.
-/
import Derived.Test.YtmhhnnklfcbgfaaGreatMS
set_option linter.unusedVariables false
set_option linter.unusedSimpArgs false
set_option linter.defProp false
open Option renaming some→D
open Bool renaming true→C,false→Z
open Go.bo.aa renaming int→J,bool→y
open Go.IntKind renaming i64→X
namespace Go.Proofs.YtmhhnnklfcbgfaaGreat
open Go.bo
section
open Go.bp
structure gB(m:Nat)(p:dn):Prop extends May m p where
 hm:m<=60
 nl:∀N∈p.nodes,N.length<=60
 fe:∀fs∈p.fields,∀l∈fs,l.length<=60
 nn:p.nodes.length<=1000000
def P6{n m:Nat}{l:List bz}(hm:m<=60)(aS:n<=1000000):gB m (da n m l):=by
 refine {P7 n m (df n l)with hm:=hm,nl:= ?_,fe:= ?_,nn:=by simpa [da,gl]using aS}
 ·intro N a;simp only[da,gl,List.mem_map]at a;obtain⟨v,_,rfl⟩:=a;have:=qc m (df n l v);omega
 ·intro fs b d c;simp only[da,gl,List.mem_map]at b;obtain⟨t,_,rfl⟩:=b;simp only[List.mem_map]at c;obtain⟨k,_,rfl⟩:=c;have:=qc m (df n l (n+t*8+k));omega
def gB.pW{m:Nat}{p:dn}(h:gB m p){t k:Nat}(d:t<m)(c:k<8):∃fs,p.fields[t]? =D fs/\fs[k]? =D (p.ea t k)/\fs.length=8:=by
 have az:=h.len;have a:p.fields[t]? =D p.fields[t]:=List.getElem?_eq_getElem ai;have b:=h.wid _ (List.getElem_mem (by omega:t<p.fields.length));refine⟨_,a,?_,b⟩;unfold dn.ea;rw[a,Option.bind_some,List.getElem?_eq_getElem ai];rfl
def gB.DY{m:Nat}{p:dn}(h:gB m p)(t k:Nat):(p.ea t k).length<=60:=by
 unfold dn.ea;cases e:p.fields[t]? with
 |none=>simp
 |some fs=>
  simp only[Option.bind_some];cases a:fs[k]? with
  |none=>simp
  |some l=>exact h.fe fs (List.mem_of_getElem? e) l (List.mem_of_getElem? a)
section
variable {H:ad}{ok:Nat->Prop}
def ZN{B m a:Nat}(g:H.get B=D (.row Z 1 [[J X (m:Nat)]]))(d:a<m):W (aC P ax 253 [J X (a:Nat),.ptr B 0 0] H) λr H'=>r= y Z/\H'=H:=by
 refine bZ (λ_=>UG 0) ?_;have b:¬(a:Int)<0:=ai;have c:¬(m:Int)<=(a:Int):=ai;simp-implicitDefEqProofs(disch:=try exact al)only[rq,aq,aG,b,c,decide_false,g1 g];exact aK.2 ⟨rfl,rfl⟩
def Ez{l:List Nat}{v:aa}{B m:Nat}(hw:∀a∈l,a<m)(d:l.length<=1000000000)(az:aZ bu H ok (bC l) v)(g:H.get B=D (.row Z 1 [[J X (m:Nat)]])){N:Nat}:∀(j k q:Nat),k+j=l.length->j<q->
  W (nd (aC P ax) N q v (.func (.func 253) [] [.ptr B 0 0]) (J X l.length) (J X k) H) λr H'=>r= J X (-1)/\H'=H
 |_,_,0,_,hm=>ai
 |0,k,q+1,e,_=>by
  have b:¬(k:Int)<(l.length:Int):=ai;simp-implicitDefEqProofs(disch:=try exact al)only[nd,uN,ry,aq,aG,b,decide_false];exact aK.2 ⟨rfl,rfl⟩
 |j+1,k,q+1,e,hm=>by
  have b:(k:Int)<(l.length:Int):=ai;have c:k<l.length:=ai;obtain⟨p,i1,i2⟩:=az.int (j:=(k:Int)) (a:=((l[k]:Nat):Int)) ai (by simp[bC,c]);have f:=hw _ (List.getElem_mem c);have on:=Ez (B:=B) (v:=v) hw d az g (N:=N) j (k+1) q;simp-implicitDefEqProofs(disch:=try exact al)only[nd,uN,aq,aO,aG,b,decide_true,i1,i2,se,sx];refine fu (ZN g f) ?_;simp-implicitDefEqProofs(disch:=try exact al)only[aq,aG,c3 (show k<=1000000000 by omega)];exact on ai ai
def LD{l:List Nat}{v:aa}{B m:Nat}(hw:∀a∈l,a<m)(b:l.length<=1000000000)(az:aZ bu H ok (bC l) v)(g:H.get B=D (.row Z 1 [[J X (m:Nat)]])):
  W (aC P ax 252 [v,.func (.func 253) [] [.ptr B 0 0]] H) λr H'=>r= y Z/\H'=H:=by
 refine bZ (λ_=>UF 0) ?_;have hlen:(bC l).length=l.length:=by simp[bC]
 have key:W (aC P ax 261 [v,.func (.func 253) [] [.ptr B 0 0]] H) λr H'=>r= J X (-1)/\H'=H:=by
  refine bZ (λ_=>UK (l.length+1)) ?_;simp-implicitDefEqProofs(disch:=try exact al)only[ru,bf,az.len cU,hlen];exact Ez hw b az g l.length 0 (l.length+1) ai ai
 simp-implicitDefEqProofs(disch:=try exact al)only[rp,aq];refine fu key ?_;simp-implicitDefEqProofs(disch:=try exact al)only[aq,aG];exact aK.2 ⟨rfl,rfl⟩
def Ft{ls:List (List Nat)}{v:aa}{B m:Nat}(hw:∀l∈ls,∀a∈l,a<m)(c:∀l∈ls,l.length<=60)(f:ls.length<=1000000000)(az:aZ (cQ bu) H ok (ls.map bC) v)(g:H.get B=D (.row Z 1 [[J X (m:Nat)]])){N:Nat}:∀(j k q:Nat),k+j=ls.length->j<q->
  W (m0 (aC P ax) N q (.ptr B 0 0) v (J X ls.length) (J X k) H) λr H'=>r= y C/\H'=H
 |_,_,0,_,hm=>ai
 |0,k,q+1,h,_=>by
  have b:¬(k:Int)<(ls.length:Int):=ai;simp-implicitDefEqProofs(disch:=try exact al)only[m0,uF,q4,aq,aG,b,decide_false];exact aK.2 ⟨rfl,rfl⟩
 |j+1,k,q+1,h,hm=>by
  have b:(k:Int)<(ls.length:Int):=ai;have d:k<ls.length:=ai;obtain⟨p,w,i1,i2,i3⟩:=az.list (j:=(k:Int)) (a:=bC ls[k]) ai (by simp[d]);have e:=List.getElem_mem d;have on:=Ft (B:=B) (v:=v) hw c f az g (N:=N) j (k+1) q;simp-implicitDefEqProofs(disch:=try exact al)only[m0,uF,aq,aG,b,decide_true,i1,i2];refine fu (LD (hw _ e) (by have:=c _ e;omega) i3 g) ?_;simp-implicitDefEqProofs(disch:=try exact al)only[aq,aG,c3 (show k<=1000000000 by omega)];exact on ai ai
def Fu{ls:List (List Nat)}{v:aa}{m:Nat}(hw:∀l∈ls,∀a∈l,a<m)(d:∀l∈ls,l.length<=60)(c:ls.length<=1000000000)(az:aZ (cQ bu) H ok (ls.map bC) v):
  W (aC P ax 226 [v,J X (m:Nat)] H) λr H'=>r= y C/\ay H H':=by
 refine bZ (λ_=>Up (ls.length+1)) ?_;have b:=ay.push H (.row Z 1 [[J X (m:Nat)]]);have hlen:(ls.map bC).length=ls.length:=by simp
 simp-implicitDefEqProofs(disch:=try exact al)only[q3,bf,aq,CR,az.len f_,hlen];exact(Ft hw d c (az.aI b) (ad.bq _ _) ls.length 0 _ ai ai).mono λr H' q=>⟨q.1,q.2▸b⟩
def aZ.sR{l:List (List (List Int))}{v:aa}(h:aZ (cQ (cQ bu)) H ok l v){j:Int}{a:List (List Int)}(b:0<=j)(c:l[j.toNat]? =D a):∃p w,a6 P 152 v (J X j)=D p/\aj P H 31 p=D w/\aZ (cQ bu) H ok a w:=by
 obtain⟨p,cs,d,e,w,rfl,f⟩:=aZ.val (K:=cQ (cQ bu)) sT ag h b c;exact⟨p,w,d,e,f⟩
def vH(l:Nat){x y:aa}(aD:x.one=C)(a:y.one=C):b0 l (.agg [x,y])=D (.ptr l 0 0,.row Z 2 [[x,y]]):=by simp[b0,aa.cells,aD,a]
def Fg{m:Nat}{p:dn}(b:gB m p){zX:Nat}{nv fv:aa}{N:Nat}:∀(j k q:Nat) (H:ad),k+j=m->j<q->aZ (cQ (cQ bu)) H ok (p.fields.map (·.map bC)) fv->H.get zX=D (.row Z 2 [[nv,fv]])->
  W (mP (aC P ax) N q (.ptr zX 0 0) (J X m) fv (J X m) (J X k) H) λr H'=>r= y C/\ay H H'
 |_,_,0,_,_,hm,_,_=>ai
 |0,k,q+1,H,s,_,aN,g=>by
  have d:¬(k:Int)<(m:Int):=ai;simp-implicitDefEqProofs(disch:=try exact al)only[mP,uk,qN,aq,aG,d,decide_false];exact aK.2 ⟨rfl,.refl _⟩
 |j+1,k,q+1,H,s,hm,aN,g=>by
  have d:(k:Int)<(m:Int):=ai;have E:k<m:=ai;have B:=b.len;have G:=b.hm;have i:p.fields[0]? =D p.fields[0]:=List.getElem?_eq_getElem ai;have n:p.fields[k]? =D p.fields[k]:=List.getElem?_eq_getElem ai;have x:=List.getElem_mem (by omega:0<p.fields.length);have mk:=List.getElem_mem (by omega:k<p.fields.length);obtain⟨K,w0,i1,i2,i3⟩:=aN.sR (j:=0) (a:=p.fields[0].map bC) ai (by simp[i]);obtain⟨c,A,t,u,e⟩:=aN.sR (j:=(k:Int)) (a:=p.fields[k].map bC) ai (by simp[n]);have v:∀H0,a2 P H0 .len [31] [w0]=D (J X 8):=λH0=>by rw[i3.len f_,List.length_map,b.wid _ x];rfl
  have w:∀H0,a2 P H0 .len [31] [A]=D (J X 8):=λH0=>by rw[e.len f_,List.length_map,b.wid _ mk];rfl
  have on:=Fg b (zX:=zX) (nv:=nv) (fv:=fv) (N:=N) j (k+1) q;have f:((8:Int) != 8)=false:=rfl;have h:¬(8:Int)>8:=b_;simp-implicitDefEqProofs(disch:=try exact al)only[mP,uk,bf,aq,aO,aG,aM,d,decide_true,i1,i2,t,u,v,w,ja g,f,h,decide_false];refine cE (Fu (λl az a o=>b.ea _ mk l az a o) (b.fe _ mk) (by rw[b.wid _ mk];omega) e) ?_;rintro _ H1 ⟨rfl,c⟩;refine⟨c.1,?_⟩;simp-implicitDefEqProofs(disch:=try exact al)only[aq,aG,c3 (show k<=1000000000 by omega),Bool.not_true];exact(on H1 ai ai (aN.aI c) (c.get g)).mono λr H' z=>⟨z.1,c.trans z.2⟩
def Qn{m:Nat}{p:dn}(a:gB m p){nv fv:aa}(g:aZ (cQ bu) H ok (p.nodes.map bC) nv)(c:aZ (cQ (cQ bu)) H ok (p.fields.map (·.map bC)) fv):
  W (aC P ax 185 [.agg [nv,fv]] H) λr H'=>r= y C/\ay H H':=by
 refine bZ (λ_=>Ua (m+1)) ?_;have d:=ay.push H (.row Z 2 [[nv,fv]]);have e:=ad.bq H (.row Z 2 [[nv,fv]]);have k:=a.hm;have h:∀H0,a2 P H0 .len [152] [fv]=D (J X (m:Nat)):=λH0=>by rw[c.len sT,List.length_map,a.len]
 have i:¬(m:Int)>60:=ai;have j:¬(60:Int)<(m:Int):=ai;simp-implicitDefEqProofs(disch:=try exact al)only[qM,bf,aq,aO,aG,aM,vH _ g.one c.one,ja e,h,i,decide_false];refine cE (Fu (ls:=p.nodes) a.nodes a.nl (by have:=a.nn;omega) (g.aI d)) ?_;rintro _ H1 ⟨rfl,b⟩;refine⟨b.1,?_⟩;have f:=b.get e;simp-implicitDefEqProofs(disch:=try exact al)only[bf,aq,aO,aM,ja f,h,Bool.not_true];exact(Fg a m 0 _ H1 ai ai ((c.aI d).aI b) f).mono λr H' z=>⟨z.1,(d.trans b).trans z.2⟩
def fy(of:List Nat):List Nat->Int
 |[]=> -1
 |a::_=>((of.getD a 0:Nat):Int)
def C6{of l:List Nat}{ov lv:aa}{ok':Nat->Prop}(a7:aZ bu H ok (bC of) ov)(az:aZ bu H ok' (bC l) lv)(aD:∀a∈l,a<of.length):W (aC P ax 190 [ov,lv] H) λr H'=>r= J X (fy of l)/\H'=H:=by
 refine bZ (λ_=>Uf 0) ?_;have hlen:(bC l).length=l.length:=by simp[bC]
 cases l with
 |nil=>
  simp-implicitDefEqProofs(disch:=try exact al)only[oY,bf,aq,aO,aG,az.len cU,hlen];exact aK.2 ⟨rfl,rfl⟩
 |cons a bs=>
  have b:=aD a (by simp);obtain⟨p,i1,i2⟩:=az.int (j:=0) (a:=((a:Nat):Int)) ai (by simp[bC]);obtain⟨c,i3,i4⟩:=a7.int (j:=(a:Int)) (a:=((of.getD a 0:Nat):Int)) ai (by simp[bC,List.getD_eq_getElem?_getD,b]);have e:(((bs.length+1:Nat):Int)==0)=false:=beq_eq_false_iff_ne.2 ai;simp-implicitDefEqProofs(disch:=try exact al)only[oY,bf,aq,aO,aG,az.len cU,hlen,e,i1,i2,i3,i4];exact aK.2 ⟨rfl,rfl⟩
def ek(p:dn)(set:List Nat)(k:Nat):List Nat:=set.flatMap λt=>p.ea t k
def D7{m:Nat}{p:dn}(e:gB m p){set:List Nat}(s:∀t∈set,t<m)(L:set.length<=1000){b zX B:Nat}(o:b<8){nv fv sv:aa}{ok':Nat->Prop}{N:Nat}(n:zX<B):∀(j k q:Nat) (H:ad) (l:List Int) (v:aa),k+j=set.length->j<q->aZ (cQ (cQ bu)) H (· <B) (p.fields.map (·.map bC)) fv->aZ bu H (· <B) (bC set) sv->H.get zX=D (.row Z 2 [[nv,fv]])->bG bu B bH H l v->B<=H.next->l.length<=60*k->
  W (mV (aC P ax) N q (J X (b:Nat)) (.ptr zX 0 0) v sv (J X set.length) (J X k) H) λr H'=>bG bu B bH H' (l++bC (ek p (set.drop k) b)) r/\dt B H H'
 |_,_,0,_,_,_,_,hm,_,_,_,_,_,_=>ai
 |0,k,q+1,H,l,v,K,_,aN,f,g,h,i,_=>by
  have c:¬(k:Int)<(set.length:Int):=ai;simp-implicitDefEqProofs(disch:=try exact al)only[mV,uA,qV,aq,aG,c,decide_false];rw[List.drop_of_length_le ai];exact aK.2 ⟨by simpa [ek,bC]using h,.refl _ _⟩
 |j+1,k,q+1,H,l,v,K,hm,aN,f,g,h,i,hle=>by
  have c:(k:Int)<(set.length:Int):=ai;have d:k<set.length:=ai;have M:=s _ (List.getElem_mem d);obtain⟨Y,i1,i2⟩:=f.int (j:=(k:Int)) (a:=((set[k]:Nat):Int)) ai (by simp[bC,d]);have on:=D7 e s L o (nv:=nv) (fv:=fv) (sv:=sv) (ok':=ok') (N:=N) n j (k+1) q;rw[List.drop_eq_getElem_cons d];generalize set[k]=t at*;obtain⟨fs,x,A,U⟩:=e.pW M o;obtain⟨ab,af,O,Q,R⟩:=aN.sR (j:=(t:Int)) (a:=fs.map bC) ai (by simp[x]);obtain⟨ae,ag,b8,cg,S⟩:=R.list (j:=(b:Int)) (a:=bC (p.ea t b)) ai (by simp[A]);have V:=e.DY t b;have G:l.length+(bC (p.ea t b)).length<=1000000000:=by simp[bC];omega
  obtain⟨T,H1,u,w,a3,a4,a5⟩:=h.ints i S G;have E:B<=H1.next:=by have:=a3.1;omega
  have nn:H.next<=H1.next:=a3.1
  simp-implicitDefEqProofs(disch:=try exact al)only[mV,uA,aq,aO,aG,aM,c,decide_true,i1,i2,ja g,O,Q,b8,cg,u,c3 (show k<=1000000000 by omega)];refine(on H1 _ T ai ai (aN.hP a3) (f.hP a3) ((a3.2 zX n).trans g) w E (by simp[bC];omega)).mono λr H' z=>⟨?_,a3.trans z.2⟩
  have:=z.1;rw[List.append_assoc]at this;simpa [ek,bC]using this
def D8{m:Nat}{p:dn}(l:gB m p){set:List Nat}(o:∀t∈set,t<m)(q:set.length<=1000){a:Nat}(i:a<8){nv fv sv:aa}{ok':Nat->Prop}(j:nv.one=C)(aN:aZ (cQ (cQ bu)) H ok (p.fields.map (·.map bC)) fv)(d:aZ bu H ok' (bC set) sv):
  W (aC P ax 191 [.agg [nv,fv],sv,J X (a:Nat)] H) λr H'=>bG bu H.next bH H' (bC (ek p set a)) r/\ay H H':=by
 refine bZ (λ_=>Ug (set.length+1)) ?_;have b:=ay.push H (.row Z 2 [[nv,fv]]);have f:=ad.bq H (.row Z 2 [[nv,fv]]);have hlen:(bC set).length=set.length:=by simp[bC]
 simp-implicitDefEqProofs(disch:=try exact al)only[qU,bf,aq,vH _ j aN.one,d.len cU,hlen];refine(D7 l o q i (B:=H.next+1) (ok':=ok') ai set.length 0 _ _ [] .aB ai ai ((aN.below.aI b).keep (.le λL g=>ai)) ((d.below.aI b).keep (.le λL g=>ai)) f (bG.nil bu _ _ _) (by simp) (by simp)).mono λr H' z=>⟨⟨?_,λL n c e=>by have:=z.1.low L n c e;omega⟩,?_⟩
 ·simpa using z.1.eG
 ·exact⟨by have:=z.2.1;simp at this;omega,λk h=>(z.2.2 k ai).trans (b.2 k h)⟩
end
end
section
open Go.bp
def bG.Bs{α:Type}{K:ej α}(c:Plain K){B:Nat}{H:ad}{l:List α}{v:aa}(h:bG K B bH H l v):aZ K H (λk=>B<=k) l v:=by
 rcases h.eG with ae|⟨L,els,cap,a,i,d,m,n,e⟩
 ·exact .inl ae
 ·exact .inr (.inl ⟨L,0,cap,Z,els,a,h.low _ _ _ a,d,ai,λj x b=>by
   obtain⟨cs,f,g⟩:=e j x b;exact⟨cs,by rw[Nat.zero_add];exact f,c g⟩⟩)
def P9{L set:List Nat}(h:set∈cC L):∃r,r<L.length/\aW L r=r/\set=c_ L.length λs=>aW L s=r:=by
 simp only[cC,List.mem_map]at h;obtain⟨r,a,rfl⟩:=h;exact⟨r,(om.1 a).1,(om.1 a).2,rfl⟩
def ZI{L:List Nat}(g:bp.Good L){s:Nat}(a:s<L.length):(c_ L.length λt=>aW L t=aW L s)∈cC L:=by
 simp only[cC,List.mem_map];exact⟨aW L s,om.2 ⟨g.lt a,g.id s⟩,rfl⟩
def Ie{m:Nat}{p:dn}{L set:List Nat}(h:e8 m p L)(b:set∈cC L):(∀t∈set,t<m)/\set.length<=m/\(∀s∈set,∀t∈set,cH p s t)/\∃t,set[0]? =D t:=by
 obtain⟨r,ae,ah,rfl⟩:=P9 b;rw[h.len]at ae ⊢;refine⟨λt c=>(gI.1 c).1,qc _ _,λs b t c=>h.sub s t ?_,?_⟩
 ·show aW L s=aW L t;rw[(gI.1 b).2,(gI.1 c).2]
 ·have d:r∈c_ m λs=>aW L s=r:=gI.2 ⟨ae,ah⟩
  cases e:c_ m λs=>aW L s=r with
  |nil=>rw[e]at d;simp at d
  |cons a l=>exact⟨a,rfl⟩
def pY{p:dn}{set:List Nat}{k a:Nat}:a∈ek p set k↔∃t∈set,a∈p.ea t k:=by simp[ek]
def NN{m:Nat}{p:dn}(a:gB m p)(set:List Nat)(k:Nat):(ek p set k).length<=60*set.length:=by
 unfold ek
 induction set with
 |nil=>simp
 |cons t ts b=>simp only[List.flatMap_cons,List.length_append,List.length_cons];have:=a.DY t k;omega
section
variable {zD m:Nat}{p:dn}{ok Ay okv:Nat->Prop}{nv fv sv:aa}{zX:Nat}
def DS{set:List Nat}(l:gB m p)(R:∀k,ok k->k≠zD)(S:∀k,Ay k->k≠zD)(E:zX≠zD)(M:nv.one=C)(T:∀t∈set,t<m)(ao:set.length<=m)(V:∀s∈set,∀t∈set,cH p s t){x10 x11 x12:aa}{L1:aa->aa->aa->aa->aa->aa->ad->O}{Q:aa->ad->Prop}{N:Nat}:
  ∀(j k q:Nat) (L:List Nat) (b:Bool) (H:ad),k+j=8->j<q->eh zD L H->e8 m p L->aZ (cQ (cQ bu)) H ok (p.fields.map (·.map bC)) fv->aZ bu H Ay (bC set) sv->H.get zX=D (.row Z 2 [[nv,fv]])->
  (∀(L':List Nat) (b':Bool) (H':ad),eh zD L' H'->e8 m p L'->hc L L'->(b'=C->b=C\/gx L'<gx L)->(b'=Z->b=Z/\L'=L)->(∀d,k<=d->d<8->∀a∈ek p set d,∀c∈ek p set d,eo L' a c)->eF (· =zD) H H'->
   W (kC (aC P ax) N L1 (.ptr (zD+1) 0 0) (.ptr zX 0 0) (y b') x10 x11 x12 H') Q)->
  W (mT (aC P ax) N L1 q (.ptr (zD+1) 0 0) (.ptr zX 0 0) (y b) sv x10 x11 x12 (J X 8) (J X k) H) Q
 |_,_,0,_,_,_,_,hm,_,_,_,_,_,_=>ai
 |0,k,q+1,L,b,H,i,_,h,u,aN,w,g,fin=>by
  have v:¬(k:Int)<8:=ai;simp-implicitDefEqProofs(disch:=try exact al)only[mT,uq,aq,aG,v,decide_false];exact fin L b H h u (.refl h.g) (λe=> .inl e) (λe=>⟨e,rfl⟩) (λd ae ah=>ai) (.refl _ _)
 |j+1,k,q+1,L,b,H,i,hm,h,u,aN,w,g,fin=>by
  have v:(k:Int)<8:=ai;have an:k<8:=ai;have aE:=l.hm;have on:=DS l R S E M T ao V (x10:=x10) (x11:=x11) (x12:=x12) (L1:=L1) (Q:=Q) (N:=N) j (k+1) q;simp-implicitDefEqProofs(disch:=try exact al)only[mT,uq,aq,aG,v,decide_true,og g];refine bk (D8 l T ai an M aN w) ?_;rintro gv H1 ⟨av,z⟩;refine⟨z.1,?_⟩;have ay:=h.lt;have B:=u.len;have az:=NN l set k;have r:∀x∈ek p set k,x<L.length:=λx aD=>by
   obtain⟨t,_,ah⟩:=pY.1 aD;rw[B];exact(l.toMay.fe ah).1
  have ap:∀a∈ek p set k,∀c∈ek p set k,cH p a c:=λa o c aA=>by
   obtain⟨s,ae,ah⟩:=pY.1 o;obtain⟨t,ak,au⟩:=pY.1 aA;exact .field (V s ae t ak) ah au
  simp-implicitDefEqProofs(disch:=try exact al)only[aq];refine bk (IV (ok:=λq=>H.next<=q) (λq a8 e=>ai) ai (h.aI z) ai r (av.Bs fK)) ?_;rintro _ f ⟨ag,rfl,ah,ab,aw,aj⟩;refine⟨ab.1,?_⟩;have n:=(z.mut (· =zD)).trans ab;have af:=u.IS (λx aD=>by rw[<-B];exact r x aD) ap;have Y:=BD h.g r;have rel:=IT h.g r;have K:aZ (cQ (cQ bu)) f ok (p.fields.map (·.map bC)) fv:=aN.keep (.mut n λk i e=>R k i e);have U:aZ bu f Ay (bC set) sv:=w.keep (.mut n λk i e=>S k i e);have A:f.get zX=D (.row Z 2 [[nv,fv]]):=n.get g E;have G:∀{L':List Nat},hc (nM L (ek p set k)) L'->(∀d,k+1<=d->d<8->∀a∈ek p set d,∀c∈ek p set d,eo L' a c)->∀d,k<=d->d<8->∀a∈ek p set d,∀c∈ek p set d,eo L' a c:=λar am d ae ah a o c aA=>by
   by_cases e:d=k
   ·subst e;exact ar.le _ _ (rel a o c aA)
   ·exact am d ai ah a o c aA
  cases ag with
  |true=>
   simp-implicitDefEqProofs(disch:=try exact al)only[oU,aq,aG,c3 (show k<=1000000000 by omega)];refine on _ C f ai ai ah af K U A ?_;intro L' b' H' f1 f2 f3 f4 f5 f6 f7;have aS:=aw rfl;have hle:=f3.wV;exact fin L' b' H' f1 f2 (Y.trans f3) (λ_=> .inr ai) (λe=>absurd (f5 e).1 b_) (G f3 f6) (n.trans f7)
  |false=>
   simp-implicitDefEqProofs(disch:=try exact al)only[oU,aq,aG,c3 (show k<=1000000000 by omega)];refine on _ b f ai ai ah af K U A ?_;intro L' b' H' f1 f2 f3 f4 f5 f6 f7;have aS:=aj rfl;exact fin L' b' H' f1 f2 (Y.trans f3) (λe=>(f4 e).imp id λq=>by rw[aS]at q;exact q) (λe=>⟨(f5 e).1,(f5 e).2.trans aS⟩) (G f3 f6) (n.trans f7)
def D3(n:gB m p)(v:∀k,ok k->k≠zD)(w:∀k,okv k->k≠zD)(o:zX≠zD)(M:nv.one=C){L0:List Nat}(l:e8 m p L0){xv:aa}{N:Nat}(E:8<N):
  ∀(j k q:Nat) (L:List Nat) (b:Bool) (H:ad),k+j=(cC L0).length->j<q->eh zD L H->e8 m p L->aZ (cQ (cQ bu)) H ok (p.fields.map (·.map bC)) fv->aZ (cQ bu) H okv ((cC L0).map bC) xv->H.get zX=D (.row Z 2 [[nv,fv]])->
  W (mS (aC P ax) N q (.ptr (zD+1) 0 0) (.ptr zX 0 0) (.bool b) xv (J X (cC L0).length) (J X k) H) λr H'=>∃L' b',r= .bool b'/\eh zD L' H'/\e8 m p L'/\hc L L'/\(b'=C->b=C\/gx L'<gx L)/\(b'=Z->b=Z/\L'=L)/\(∀set∈(cC L0).drop k,∀f,f<8->∀a∈ek p set f,∀c∈ek p set f,eo L' a c)/\eF (· =zD) H H'
 |_,_,0,_,_,_,_,hm,_,_,_,_,_=>ai
 |0,k,q+1,L,b,H,i,_,h,A,aN,x,g=>by
  have t:¬(k:Int)<((cC L0).length:Int):=ai;simp-implicitDefEqProofs(disch:=try exact al)only[mS,uo,lq,aq,aG,t,decide_false];exact aK.2 ⟨L,b,rfl,h,A,.refl h.g,λe=> .inl e,λe=>⟨e,rfl⟩,λset d=>by rw[List.drop_of_length_le ai]at d;simp at d,.refl _ _⟩
 |j+1,k,q+1,L,b,H,i,hm,h,A,aN,x,g=>by
  have t:(k:Int)<((cC L0).length:Int):=ai;have u:k<(cC L0).length:=ai;have aE:(cC L0).length<=m:=by
   have:=qf (L:=L0) L0.length;rw[l.len]at this;simpa [cC,l.len]using this
  have aD:=n.hm;have on:=D3 n v w o M l (xv:=xv) E j (k+1) q;obtain⟨ae,ah,ak,t0,au⟩:=Ie l (List.getElem_mem u);obtain⟨aH,aP,i1,i2,i3⟩:=x.list (j:=(k:Int)) (a:=bC (cC L0)[k]) ai (by simp[u]);rw[List.drop_eq_getElem_cons u];generalize (cC L0)[k]=set at*;have S:=ae t0 (List.mem_of_getElem? au);obtain⟨aI,T,U⟩:=i3.int (j:=0) (a:=((t0:Nat):Int)) ai (by simp[bC,au]);obtain⟨fs,Q,az,R⟩:=n.pW S (show 0<8 by omega);obtain⟨aL,ap,b8,cg,V⟩:=aN.sR (j:=(t0:Int)) (a:=fs.map bC) ai (by simp[Q]);have Y:∀H0,a2 P H0 .len [31] [ap]=D (J X 8):=λH0=>by rw[V.len f_,List.length_map,R];rfl
  simp-implicitDefEqProofs(disch:=try exact al)only[mS,uo,bf,aq,aO,aG,aM,t,decide_true,i1,i2,T,U,ja g,b8,cg,Y];refine DS n v w o M ae ah ak 8 0 N L b H ai E h A aN i3 g ?_;intro L1 O H1 f1 f2 f3 f4 f5 f6 f7;simp-implicitDefEqProofs(disch:=try exact al)only[kC,aq,aG,c3 (show k<=1000000000 by omega)];refine(on L1 O H1 ai ai f1 f2 (aN.keep (.mut f7 λk i e=>v k i e)) (x.keep (.mut f7 λk i e=>w k i e)) (f7.get g o)).mono ?_;rintro r H' ⟨L',b',ab,af,ag,B,aj,am,an,ao⟩;have cP:=f3.wV;have aF:=B.wV;refine⟨L',b',ab,af,ag,f3.trans B,λe=> ?_,λe=> ?_,λs d f K a G c aA=> ?_,f7.trans ao⟩
  ·rcases aj e with z|z
   ·rcases f4 z with y|y
    ·exact .inl y
    ·exact .inr ai
   ·exact .inr ai
  ·obtain⟨aw,ay⟩:=am e;obtain⟨ar,av⟩:=f5 aw;exact⟨ar,ay.trans av⟩
  ·rcases List.mem_cons.1 d with rfl|d
   ·exact B.le _ _ (f6 f ai K a G c aA)
   ·exact an s d f K a G c aA
def Ny(d:gB m p)(o:∀k,ok k->k≠zD){L:List Nat}{H:ad}(h:eh zD L H)(i:e8 m p L)(n:nv.one=C)(aN:aZ (cQ (cQ bu)) H ok (p.fields.map (·.map bC)) fv):
  W (aC P ax 188 [.ptr (zD+1) 0 0,.agg [nv,fv]] H) λr H'=>∃L' b,r= y b/\eh zD L' H'/\e8 m p L'/\hc L L'/\(b=C->gx L'<gx L)/\(b=Z->L'=L/\j9 p L)/\eF (· =zD) H H':=by
 refine bZ (λ_=>Ud (m+9)) ?_;have v:=ay.push H (.row Z 2 [[nv,fv]]);have x:=ad.bq H (.row Z 2 [[nv,fv]]);have S:=d.hm;have R:=i.len;have Q:=h.lt;simp-implicitDefEqProofs(disch:=try exact al)only[qS,aq,vH _ n aN.one];refine bk (Io (h.aI v) ai) ?_;rintro xv H1 ⟨ae,s1,f⟩;refine⟨f.1,?_⟩;have U:(cC L).length<=m:=by
  have:=qf (L:=L) L.length;simp only[cC,List.length_map];omega
 have A:∀H0,a2 P H0 .len [31] [xv]=D (J X (cC L).length):=λH0=>by rw[s1.len f_,List.length_map]
 simp-implicitDefEqProofs(disch:=try exact al)only[bf,A];have q:=(v.mut (· =zD)).trans f;refine(D3 d o (okv:=λk=>(H.push (.row Z 2 [[nv,fv]])).next<=k) (λk c e=>by simp at c;omega) (zX:=H.next) ai n i ai (cC L).length 0 _ L Z H1 ai ai ae i (aN.keep (.mut q λk c e=>o k c e)) s1 (f.get x ai)).mono ?_;rintro r H' ⟨L',b',B,E,G,K,M,w,N,O⟩;refine⟨L',b',B,E,G,K,λe=>(M e).resolve_left b_,λe=>⟨(w e).2,⟨λs t k a b z j l=> ?_⟩⟩,q.trans O⟩;obtain⟨-,T,c⟩:=d.toMay.fe j;obtain⟨-,V,-⟩:=d.toMay.fe l;rw[<-(w e).2];refine N (c_ L.length λu=>aW L u=aW L s) (by rw[List.drop_zero];exact ZI h.g (show s<L.length by omega)) k c a (pY.2 ⟨s,gI.2 ⟨ai,rfl⟩,j⟩) b (pY.2 ⟨t,gI.2 ⟨ai,z.symm⟩,l⟩)
end
end
section
open Go.bp
section
variable {zD m:Nat}{p:dn}{ok:Nat->Prop}{nv fv:aa}{zX R:Nat}
def Fo(c:gB m p)(w:∀k,ok k->k≠zD){x2:aa}{Q:aa->ad->Prop}{N:Nat}:
  ∀(j k q:Nat) (L:List Nat) (H:ad),k+j=p.nodes.length->j<q->eh zD L H->e8 m p L->aZ (cQ bu) H ok (p.nodes.map bC) nv->(∀l∈p.nodes.take k,∀a∈l,∀b∈l,eo L a b)->
  (∀(L':List Nat) (H':ad),eh zD L' H'->e8 m p L'->hY p L'->eF (· =zD) H H'->W (oD (aC P ax) N (.ptr zX 0 0) x2 (.ptr (zD+1) 0 0) H') Q)->
  W (mD (aC P ax) N q (.ptr zX 0 0) x2 (.ptr (zD+1) 0 0) nv (J X p.nodes.length) (J X k) H) Q
 |_,_,0,_,_,_,hm,_,_,_,_,_=>ai
 |0,k,q+1,L,H,s,_,h,r,aN,i,fin=>by
  have t:¬(k:Int)<(p.nodes.length:Int):=ai;simp-implicitDefEqProofs(disch:=try exact al)only[mD,tI,aq,aG,t,decide_false];rw[List.take_of_length_le ai]at i;exact fin L H h r ⟨i⟩ (.refl _ _)
 |j+1,k,q+1,L,H,s,hm,h,r,aN,i,fin=>by
  have t:(k:Int)<(p.nodes.length:Int):=ai;have u:k<p.nodes.length:=ai;have R:=c.hm;have S:=c.nn;have A:=r.len;have on:=Fo c w (x2:=x2) (Q:=Q) (N:=N) j (k+1) q;have v:=List.getElem_mem u;obtain⟨U,V,i1,i2,i3⟩:=aN.list (j:=(k:Int)) (a:=bC p.nodes[k]) ai (by simp[u]);rw[List.take_add_one,List.getElem?_eq_getElem u]at on;generalize p.nodes[k]=l at*;have n:∀x∈l,x<L.length:=λx aD=>by rw[A];exact c.nodes l v x aD
  simp-implicitDefEqProofs(disch:=try exact al)only[mD,tI,aq,aG,t,decide_true,i1,i2];refine bk (IV w (by have:=c.nl l v;omega) h ai n i3) ?_;rintro _ B ⟨M,rfl,ah,z,T,O⟩;refine⟨z.1,?_⟩;have K:=r.IS (λx aD=>by rw[<-A];exact n x aD) λa d b f=> .node v d f
  have E:=BD h.g n;simp-implicitDefEqProofs(disch:=try exact al)only[aq,aG,c3 (show k<=1000000000 by omega)];refine on _ B ai ai ah K (aN.keep (.mut z λk s e=>w k s e)) (λG o a d b f=> ?_) λL' H' f1 f2 f3 f4=>fin L' H' f1 f2 f3 (z.trans f4)
  simp only[Option.toList,List.mem_append,List.mem_singleton]at o;rcases o with o|rfl
  ·exact E.le _ _ (i G o a d b f)
  ·exact IT h.g n a d b f
def Fk(i:gB m p)(c:∀k,ok k->k≠zD)(d:zX≠zD)(f:nv.one=C){x2:aa}{Q:aa->ad->Prop}{N:Nat}:
  ∀(q:Nat) (L:List Nat) (H:ad),gx L<q->eh zD L H->e8 m p L->hY p L->aZ (cQ (cQ bu)) H ok (p.fields.map (·.map bC)) fv->H.get zX=D (.row Z 2 [[nv,fv]])->
  (∀(L':List Nat) (H':ad),eh zD L' H'->e8 m p L'->hY p L'->j9 p L'->eF (· =zD) H H'->W (oE (aC P ax) N (.ptr zX 0 0) x2 (.ptr (zD+1) 0 0) H') Q)->
  W (oH (aC P ax) N q (.ptr zX 0 0) x2 (.ptr (zD+1) 0 0) H) Q
 |0,_,_,hm,_,_,_,_,_,_=>ai
 |q+1,L,H,hm,h,r,aS,aN,g,fin=>by
  simp-implicitDefEqProofs(disch:=try exact al)only[oH,xr,aq,og g];refine bk (Ny i c h r f aN) ?_;rintro _ H1 ⟨L1,b,rfl,ae,j,o,cP,l,a⟩;refine⟨a.1,?_⟩;cases b with
  |true=>
   have:=cP rfl;simp-implicitDefEqProofs(disch:=try exact al)only[aq];exact Fk i c d f (x2:=x2) (Q:=Q) (N:=N) q L1 H1 ai ae j (aS.zL o) (aN.keep (.mut a λk n e=>c k n e)) (a.get g d) λL' H' f1 f2 f3 f4 f5=>fin L' H' f1 f2 f3 f4 (a.trans f5)
  |false=>
   obtain⟨rfl,aA⟩:=l rfl;simp-implicitDefEqProofs(disch:=try exact al)only[aq];exact fin L1 H1 ae j aS aA a
def bW(n:Nat)(a b c:aa):List aa:=[J X (n:Nat),a,b,c]
def g2{H:ad}{zC n:Nat}{a b c:aa}(g:H.get zC=D (.row Z 4 [bW n a b c])):aj P H 3 (.ptr zC 0 0)=D (J X (n:Nat))/\aj P H 30 (.ptr zC 0 1)=D a/\aj P H 30 (.ptr zC 0 2)=D b/\aj P H 31 (.ptr zC 0 3)=D c:=by
 refine⟨?_,?_,?_,?_⟩<;>(rw[fB ag g rfl];rfl)
def ko{H:ad}{zC n:Nat}{a b c:aa}(g:H.get zC=D (.row Z 4 [bW n a b c])):aj P H 33 (.ptr zC 0 0)=D (.agg (bW n a b c)):=fY (n:=4) (i:=0) (c:=0) ag ag g rfl b_
def Z0{H:ad}{zC n:Nat}{a b c v:aa}(g:H.get zC=D (.row Z 4 [bW n a b c]))(e:v.one=C):bA P H 30 (.ptr zC 0 2) v=D (H.set zC (.row Z 4 [bW n a v c])):=by
 have d:=dG e;rw[fN (n:=1) ag g rfl (by rw[d];rfl) (by rw[d];simp[e]) b_,d];rfl
def Z1{H:ad}{zC n:Nat}{a b c v:aa}(g:H.get zC=D (.row Z 4 [bW n a b c]))(e:v.one=C):bA P H 31 (.ptr zC 0 3) v=D (H.set zC (.row Z 4 [bW n a b v])):=by
 have d:=dG e;rw[fN (n:=1) ag g rfl (by rw[d];rfl) (by rw[d];simp[e]) b_,d];rfl
def kO{H:ad}{zC:Nat}{n:Nat}{a b c:aa}{r:List aa}(g:H.get zC=D (.row Z 4 [r]))(h:r.length=4)(d:a.one=C)(f:b.one=C)(aA:c.one=C):bA P H 33 (.ptr zC 0 0) (.agg (bW n a b c))=D (H.set zC (.row Z 4 [bW n a b c])):=by
 rw[fN (n:=4) ag g (e:=r) rfl (by simp[aa.cells,bW]) (by simp[aa.cells,bW,d,f,aA];rfl) b_]
 match r,h with
 |[_,_,_,_],_=>simp[aa.cells,bW,eI]
def FL{F zC i:Nat}{set:List Nat}{ok':Nat->Prop}(p:∀k,ok' k->k<F)(u:F<zC)(r:∀s∈set,s<m)(hm:m<=60)(x:set.length<=60){x1 x2 x7 x50 x51 x52 nn ff sv:aa}{cnt:Nat}{L10:aa->aa->aa->aa->aa->aa->aa->ad->O}{Q:aa->ad->Prop}{N:Nat}:
  ∀(j k q:Nat) (bS:List Nat) (H:ad),k+j=set.length->j<q->bS.length=m->H.get F=D (.row Z 1 (dM bS))->H.get zC=D (.row Z 4 [bW cnt (.aJ F 0 m 1 (D m)) nn ff])->aZ bu H ok' (bC set) sv->
  (∀(c:List Nat) (H':ad),c.length=m->(∀s,aW c s=if s∈set.drop k then i else aW bS s)->H'.get F=D (.row Z 1 (dM c))->(∀q,q≠F->H'.get q=H.get q)->H'.next=H.next->W (mz (aC P ax) N L10 x1 x2 x7 (.ptr zC 0 0) x50 x51 x52 H') Q)->
  W (mC (aC P ax) N L10 q x1 x2 x7 (.ptr zC 0 0) (J X i) x50 x51 x52 sv (J X set.length) (J X k) H) Q
 |_,_,0,_,_,_,a8,_,_,_,_,_=>ai
 |0,k,q+1,bS,H,v,_,h,f,bP,o,fin=>by
  have l:¬(k:Int)<(set.length:Int):=ai;simp-implicitDefEqProofs(disch:=try exact al)only[mC,tH,aq,aG,l,decide_false];exact fin bS H h (λs=>by rw[List.drop_of_length_le ai,if_neg (by simp)]) f (λ_ _=>rfl) rfl
 |j+1,k,q+1,bS,H,v,a8,h,f,bP,o,fin=>by
  have l:(k:Int)<(set.length:Int):=ai;have n:k<set.length:=ai;have on:=FL (i:=i) p u r hm x (x1:=x1) (x2:=x2) (x7:=x7) (x50:=x50) (x51:=x51) (x52:=x52) (nn:=nn) (ff:=ff) (sv:=sv) (cnt:=cnt) (L10:=L10) (Q:=Q) (N:=N) j (k+1) q;have w:=r _ (List.getElem_mem n);obtain⟨A,i1,i2⟩:=o.int (j:=(k:Int)) (a:=((set[k]:Nat):Int)) ai (by simp[bC,n]);rw[List.drop_eq_getElem_cons n]at fin;generalize set[k]=s at*;have st:=yp f (show s<bS.length by omega) i;have z:=ad.b6 f;simp-implicitDefEqProofs(disch:=try exact al)only[mC,tH,aq,aO,aG,aM,l,decide_true,i1,i2,g2 bP,fA cU w,st,c3 (show k<=1000000000 by omega)];refine on (bS.set s i) _ ai ai (by rw[List.length_set];exact h) (ad.dA z) (by rw[ad.cW ai];exact bP) (o.keep λq b a8 g=>⟨a8,by rw[ad.cW (by have:=p q a8;omega)];exact g⟩) λc H' f1 f2 f3 f4 f5=>fin c H' f1 (λt=> ?_) f3 (λq a8=>by rw[f4 q a8,ad.cW (Ne.symm a8)]) (by rw[f5];simp)
  rw[f2 t,sQ ai];by_cases d:t∈set.drop (k+1)
  ·rw[if_pos d,if_pos (by simp[d])]
  ·by_cases e:t=s
   ·rw[if_neg d,if_pos e,if_pos (by simp[e])]
   ·rw[if_neg d,if_neg e,if_neg (by simp[d,e])]
end
end
section
open Go.bp
section
variable {m:Nat}{p:dn}
def ZH{L:List Nat}{i:Nat}{set:List Nat}(h:(cC L)[i]? =D set):∃r,(eQ L L.length)[i]? =D r/\set=c_ L.length λs=>aW L s=r:=by
 simp only[cC,List.getElem?_map]at h;cases e:(eQ L L.length)[i]? with
 |none=>rw[e]at h;cases h
 |some r=>rw[e]at h;cases h;exact⟨r,rfl,rfl⟩
def OR{L:List Nat}(g:bp.Good L){i r:Nat}(h:(eQ L L.length)[i]? =D r):fi L r=i:=by
 have a:=om.1 (List.mem_of_getElem? h);exact Gc (xd g a.2 a.1) h
def FN{F zC:Nat}{L:List Nat}{ok':Nat->Prop}(t:∀k,ok' k->k<F)(v:F<zC)(h:L.length=m)(hm:m<=60)(g:bp.Good L){x1 x2 nn ff sv:aa}{cnt:Nat}{Q:aa->ad->Prop}{N:Nat}(G:61<N):
  ∀(j k q:Nat) (bS:List Nat) (H:ad),k+j=(cC L).length->j<q->bS.length=m->(∀s,s<m->fi L (aW L s)<k->aW bS s=fi L (aW L s))->H.get F=D (.row Z 1 (dM bS))->H.get zC=D (.row Z 4 [bW cnt (.aJ F 0 m 1 (D m)) nn ff])->aZ (cQ bu) H ok' ((cC L).map bC) sv->
  (∀(d:List Nat) (H':ad),d.length=m->(∀s,s<m->aW d s=fi L (aW L s))->H'.get F=D (.row Z 1 (dM d))->(∀q,q≠F->H'.get q=H.get q)->H'.next=H.next->W (lo (aC P ax) N x1 x2 sv (.ptr zC 0 0) H') Q)->
  W (mB (aC P ax) N q x1 x2 sv (.ptr zC 0 0) sv (J X (cC L).length) (J X k) H) Q
 |_,_,0,_,_,_,a8,_,_,_,_,_,_=>ai
 |0,k,q+1,bS,H,M,_,n,o,l,bP,u,fin=>by
  have p:¬(k:Int)<((cC L).length:Int):=ai;simp-implicitDefEqProofs(disch:=try exact al)only[mB,tG,aq,aG,p,decide_false];refine fin bS H n (λs c=>o s c ?_) l (λ_ _=>rfl) rfl;have:=(List.getElem?_eq_some_iff.1 (xd (m:=L.length) g (g.id s) (by have:=g.le s;omega))).1;have e:(cC L).length=(eQ L L.length).length:=by simp[cC]
  omega
 |j+1,k,q+1,bS,H,M,a8,n,o,l,bP,u,fin=>by
  have p:(k:Int)<((cC L).length:Int):=ai;have x:k<(cC L).length:=ai;have on:=FN t v h hm g (x1:=x1) (x2:=x2) (nn:=nn) (ff:=ff) (sv:=sv) (cnt:=cnt) (Q:=Q) G j (k+1) q;obtain⟨V,w,i1,i2,i3⟩:=u.list (j:=(k:Int)) (a:=bC (cC L)[k]) ai (by simp[x]);obtain⟨r,z,e⟩:=ZH (List.getElem?_eq_getElem x);have K:=OR g z;have U:(cC L).length<=m:=by
   have:=qf (L:=L) L.length;simp only[cC,List.length_map];omega
  generalize (cC L)[k]=set at*;have T:set.length<=m:=by rw[e,h];exact qc _ _
  have A:∀s∈set,s<m/\aW L s=r:=λs c=>by rw[e,h]at c;exact gI.1 c
  have lw:∀H0,a2 P H0 .len [30] [w]=D (J X set.length):=λH0=>by rw[i3.len cU];simp[bC]
  simp-implicitDefEqProofs(disch:=try exact al)only[mB,tG,bf,aq,aG,p,decide_true,i1,i2,lw];refine FL (i:=k) (set:=set) t v (λs c=>(A s c).1) hm ai set.length 0 N bS H ai ai n l bP i3 ?_;intro B H1 f1 f2 f3 f4 f5;simp-implicitDefEqProofs(disch:=try exact al)only[mz,aq,aG,c3 (show k<=1000000000 by omega)];refine on B H1 ai ai f1 (λs c S=> ?_) f3 (by rw[f4 zC ai];exact bP) (u.keep λq b a8 g=>⟨a8,by rw[f4 q (by have:=t q a8;omega)];exact g⟩) λd H' O R z3 z4 z5=>fin d H' O R z3 (λq a8=>(z4 q a8).trans (f4 q a8)) (z5.trans f5)
  rw[f2 s,List.drop_zero];by_cases f:s∈set
  ·rw[if_pos f,(A s f).2,K]
  ·rw[if_neg f];refine o s c ?_;have:fi L (aW L s)≠k:=λE=>f (by
    have ae:=xd (m:=L.length) g (g.id s) (by have:=g.le s;omega);rw[E,z]at ae;cases ae;rw[e,h];exact gI.2 ⟨c,rfl⟩)
   omega
def Fv{F zC:Nat}{bS:List Nat}{ok:Nat->Prop}(t:gB m p)(A:∀k,ok k->k<zC)(v:F<zC)(i:bS.length=m){x1 x2 x7 nv:aa}{cnt:Nat}{Q:aa->ad->Prop}{N:Nat}:
  ∀(j k q:Nat) (done:List Int) (dv:aa) (H:ad),k+j=p.nodes.length->j<q->done=(p.nodes.take k).map (fy bS)->bG bu (zC+1) bH H done dv->H.get F=D (.row Z 1 (dM bS))->H.get zC=D (.row Z 4 [bW cnt (.aJ F 0 m 1 (D m)) dv .aB])->aZ (cQ bu) H ok (p.nodes.map bC) nv->
  (∀(d:aa) (H':ad),bG bu (zC+1) bH H' (p.nodes.map (fy bS)) d->H'.get zC=D (.row Z 4 [bW cnt (.aJ F 0 m 1 (D m)) d .aB])->(∀q,q<zC->H'.get q=H.get q)->H.next<=H'.next->W (oF (aC P ax) N x1 x2 x7 (.ptr zC 0 0) H') Q)->
  W (mG (aC P ax) N q x1 x2 x7 (.ptr zC 0 0) nv (J X p.nodes.length) (J X k) H) Q
 |_,_,0,_,_,_,_,a8,_,_,_,_,_,_=>ai
 |0,k,q+1,done,dv,H,R,_,c,az,h,bP,s,fin=>by
  have n:¬(k:Int)<(p.nodes.length:Int):=ai;simp-implicitDefEqProofs(disch:=try exact al)only[mG,tL,aq,aG,n,decide_false];rw[List.take_of_length_le ai]at c;subst c;exact fin dv H az bP (λ_ _=>rfl) (b4 _)
 |j+1,k,q+1,done,dv,H,R,a8,c,az,h,bP,s,fin=>by
  have n:(k:Int)<(p.nodes.length:Int):=ai;have r:k<p.nodes.length:=ai;have ag:=t.nn;have on:=Fv t A v i (x1:=x1) (x2:=x2) (x7:=x7) (nv:=nv) (cnt:=cnt) (Q:=Q) (N:=N) j (k+1) q;obtain⟨E,w,i1,i2,i3⟩:=s.list (j:=(k:Int)) (a:=bC p.nodes[k]) ai (by simp[r]);have S:=List.getElem_mem r;have O:done++[fy bS p.nodes[k]]=(p.nodes.take (k+1)).map (fy bS):=by
   rw[List.take_add_one,List.getElem?_eq_getElem r,c,List.map_append];rfl
  have af:done.length<=1000000:=by rw[c];simp;omega
  generalize p.nodes[k]=l at*;have T:aZ bu H bH (bC bS) (.aJ F 0 m 1 (D m)):= .inr (.inl ⟨F,0,D m,Z,_,by simp[bC,i,bu],trivial,h,by simp[bC,dM],λj x z=>⟨[J X x],by
   simp[bC]at z;obtain⟨y,U,rfl⟩:=z;simp[dM,U],rfl⟩⟩)
  have ah:=ad.b6 bP;simp-implicitDefEqProofs(disch:=try exact al)only[mG,tL,aq,aO,aG,aM,n,decide_true,i1,i2,g2 bP];refine fu (C6 T i3 λa M=>by rw[i];exact t.nodes l S a M) ?_;obtain⟨u,H1,G,f,a3,a4,a5⟩:=az.wj (a:=fy bS l) ai ai;have E:=ay.push H (.row Z 1 [[J X (fy bS l)]]);have K:=(a3.2 zC ai).trans bP;have ae:(H.push (.row Z 1 [[J X (fy bS l)]])).next<=H1.next:=by rw[ad.ds];exact a4
  have rd:aa.beq dv dv=true:=az.aJ.rd;have V:aV (D dv) dv=true:=by simp[aV,rd]
  have st:=Z0 K f.aJ.one;simp-implicitDefEqProofs(disch:=try exact al)only[aq,aO,aG,aM,g2 bP,g2 (E.get bP),eW,G,st,V,c3 (show k<=1000000000 by omega)];have B:∀q,q≠zC->(H1.set zC (.row Z 4 [bW cnt (.aJ F 0 m 1 (D m)) u .aB])).get q=H1.get q:=λq a8=>ad.cW (Ne.symm a8)
  have o:∀q,q<zC->(H1.set zC (.row Z 4 [bW cnt (.aJ F 0 m 1 (D m)) u .aB])).get q=H.get q:=λq a8=>(B q ai).trans (a3.2 q ai)
  refine on _ u _ ai ai O (f.frame fK λL e=>B L (by have:=(f.hr e).1;omega)) ((o F v).trans h) (ad.dA ai) (s.keep λq b a8 g=>⟨a8,by rw[o q (A q a8)];exact g⟩) λd H' Y ab z3 z4=>fin d H' Y ab (λq a8=>(z3 q a8).trans (o q a8)) (by simp at z4;omega)
end
end
section
open Go.bp
section
variable {m:Nat}{p:dn}
def Iw{H:ad}{bS:List Nat}{F:Nat}(d:bS.length=m)(b:H.get F=D (.row Z 1 (dM bS)))(ok:Nat->Prop)(c:ok F):aZ bu H ok (bC bS) (.aJ F 0 m 1 (D m)):= .inr (.inl ⟨F,0,D m,Z,_,by simp[bC,d,bu],c,b,by simp[bC,dM],λj x a=>⟨[J X x],by
 simp[bC]at a;obtain⟨y,e,rfl⟩:=a;simp[dM,e],rfl⟩⟩)
def DR{F zC B cnt zX:Nat}{bS set:List Nat}(g:gB m p)(E:F<B)(A:zC<B)(G:zX<B)(r:bS.length=m)(L:∀t∈set,t<m)(af:set.length<=m){nv fv sv nn ff x2 x87 x88 x89:aa}(K:nv.one=C){L5:aa->aa->aa->aa->aa->aa->ad->O}{Q:aa->ad->Prop}{N:Nat}:
  ∀(j k q:Nat) (l:List Int) (lv:aa) (H:ad),k+j=8->j<q->B<=H.next->l=(List.range k).map (λd=>fy bS (ek p set d))->bG bu B bH H l lv->aZ (cQ (cQ bu)) H (· <B) (p.fields.map (·.map bC)) fv->aZ bu H (· <B) (bC set) sv->H.get zX=D (.row Z 2 [[nv,fv]])->H.get F=D (.row Z 1 (dM bS))->H.get zC=D (.row Z 4 [bW cnt (.aJ F 0 m 1 (D m)) nn ff])->
  (∀(h:aa) (H':ad),bG bu B bH H' ((List.range 8).map λd=>fy bS (ek p set d)) h->dt B H H'->W (oG (aC P ax) N L5 (.ptr zX 0 0) x2 (.ptr zC 0 0) h x87 x88 x89 H') Q)->
  W (mF (aC P ax) N L5 q (.ptr zX 0 0) x2 (.ptr zC 0 0) sv lv x87 x88 x89 (J X 8) (J X k) H) Q
 |_,_,0,_,_,_,_,a8,_,_,_,_,_,_,_,_,_=>ai
 |0,k,q+1,l,lv,H,Y,_,z,f,az,aN,u,aT,o,bP,fin=>by
  have s:¬(k:Int)<8:=ai;simp-implicitDefEqProofs(disch:=try exact al)only[mF,tK,aq,aG,s,decide_false];obtain rfl:k=8:=ai;subst f;exact fin lv H az (.refl _ _)
 |j+1,k,q+1,l,lv,H,Y,a8,z,f,az,aN,u,aT,o,bP,fin=>by
  have s:(k:Int)<8:=ai;have ab:k<8:=ai;have ar:=g.hm;have on:=DR g E A G r L af (nv:=nv) (fv:=fv) (sv:=sv) (nn:=nn) (ff:=ff) (x2:=x2) (x87:=x87) (x88:=x88) (x89:=x89) (cnt:=cnt) K (L5:=L5) (Q:=Q) (N:=N) j (k+1) q;have U:l++[fy bS (ek p set k)]=(List.range (k+1)).map (λd=>fy bS (ek p set d)):=by rw[f,List.range_succ,List.map_append];rfl
  have ap:l.length<=100:=by rw[f];simp;omega
  simp-implicitDefEqProofs(disch:=try exact al)only[mF,tK,aq,aG,s,decide_true,og aT];refine bk (D8 g L ai ab K aN u) ?_;rintro gv H1 ⟨ag,b⟩;refine⟨b.1,?_⟩;have V:∀x∈ek p set k,x<bS.length:=λx aD=>by
   obtain⟨t,_,ah⟩:=pY.1 aD;rw[r];exact(g.toMay.fe ah).1
  have w:=b.get bP;have S:=b.get o;simp-implicitDefEqProofs(disch:=try exact al)only[aq,aO,aM,g2 w];refine fu (C6 (Iw r S bH trivial) ag.aJ V) ?_;generalize fy bS (ek p set k)=c at*;have ae:=az.aI b;have T:B<=H1.next:=by have:=b.1;omega
  obtain⟨ak,v,M,R,a3,a4,a5⟩:=ae.wj (a:=c) T ai;have pp:=ay.push H1 (.row Z 1 [[J X c]]);have ao:(H1.push (.row Z 1 [[J X c]])).next<=v.next:=by rw[ad.ds];exact a4
  have aj:∀l i n e q,aV (D (.aJ l i n e q)) (.aJ l i n e q)=true:=λl i n e q=>by simp[aV,aa.beq]
  have pu:=(er b z).trans a3;simp-implicitDefEqProofs(disch:=try exact al)only[aq,aO,aG,eW,M,g2 bP,g2 w,aj,c3 (show k<=1000000000 by omega)];exact on _ ak v ai ai (by have:=a3.1;omega) U R (aN.hP pu) (u.hP pu) ((pu.2 zX G).trans aT) ((pu.2 F E).trans o) ((pu.2 zC A).trans bP) λh H' am an=>fin h H' am (pu.trans an)
def ZS(l:Nat){v:aa}(a:v.one=C):cv P l 31 1 [(0,v)]=D (.aJ l 0 1 1 (D 1),.row Z 1 [[v]]):=nI f_ l (dG a) rfl (by simp[a])
def D2{F zC E cnt zX:Nat}{bS L:List Nat}(l:gB m p)(ag:F<zC)(z:zC<E)(aj:zX<F)(G:bS.length=m)(v:e8 m p L){nv fv sv nn x2:aa}(M:nv.one=C){Q:aa->ad->Prop}{N:Nat}(A:8<N):
  ∀(j k q:Nat) (done:List (List Int)) (dv:aa) (H:ad),k+j=(cC L).length->j<q->E<=H.next->done=((cC L).take k).map (λset=>(List.range 8).map λc=>fy bS (ek p set c))->bG (cQ bu) E (E<= ·) H done dv->aZ (cQ (cQ bu)) H (· <F) (p.fields.map (·.map bC)) fv->aZ (cQ bu) H (· <F) ((cC L).map bC) sv->H.get zX=D (.row Z 2 [[nv,fv]])->H.get F=D (.row Z 1 (dM bS))->H.get zC=D (.row Z 4 [bW cnt (.aJ F 0 m 1 (D m)) nn dv])->
  (∀(i:aa) (H':ad),bG (cQ bu) E (E<= ·) H' ((cC L).map λset=>(List.range 8).map λc=>fy bS (ek p set c)) i->H'.get zC=D (.row Z 4 [bW cnt (.aJ F 0 m 1 (D m)) nn i])->(∀q,q<E->q≠zC->H'.get q=H.get q)->H.next<=H'.next->W (ky (aC P ax) N x2 (.ptr zC 0 0) H') Q)->
  W (mE (aC P ax) N q (.ptr zX 0 0) x2 (.ptr zC 0 0) sv (J X (cC L).length) (J X k) H) Q
 |_,_,0,_,_,_,_,a8,_,_,_,_,_,_,_,_,_=>ai
 |0,k,q+1,done,dv,H,an,_,x,e,az,aN,u,aT,r,bP,fin=>by
  have s:¬(k:Int)<((cC L).length:Int):=ai;simp-implicitDefEqProofs(disch:=try exact al)only[mE,tJ,aq,aG,s,decide_false];rw[List.take_of_length_le ai]at e;subst e;exact fin dv H az bP (λ_ _ _=>rfl) (b4 _)
 |j+1,k,q+1,done,dv,H,an,a8,x,e,az,aN,u,aT,r,bP,fin=>by
  have s:(k:Int)<((cC L).length:Int):=ai;have t:k<(cC L).length:=ai;have aR:=l.hm;have aS:(cC L).length<=m:=by
   have:=qf (L:=L) L.length;have:=v.len;simp only[cC,List.length_map];omega
  have on:=D2 l ag z aj G v (nv:=nv) (fv:=fv) (sv:=sv) (nn:=nn) (x2:=x2) (cnt:=cnt) M (Q:=Q) A j (k+1) q;have am:done++[(List.range 8).map λc=>fy bS (ek p (cC L)[k] c)]=((cC L).take (k+1)).map (λset=>(List.range 8).map λc=>fy bS (ek p set c)):=by
   rw[List.take_add_one,List.getElem?_eq_getElem t,e,List.map_append];rfl
  have aQ:done.length<=100:=by rw[e];simp;omega
  obtain⟨ae,ah,ak,t0,au⟩:=Ie v (List.getElem_mem t);obtain⟨aV,aY,i1,i2,i3⟩:=u.list (j:=(k:Int)) (a:=bC (cC L)[k]) ai (by simp[t]);generalize (cC L)[k]=set at*;have ao:=ae t0 (List.mem_of_getElem? au);obtain⟨aW,ap,ar⟩:=i3.int (j:=0) (a:=((t0:Nat):Int)) ai (by simp[bC,au]);obtain⟨fs,V,aP,Y⟩:=l.pW ao (show 0<8 by omega);obtain⟨aX,aD,b8,cg,av⟩:=aN.sR (j:=(t0:Int)) (a:=fs.map bC) ai (by simp[V]);have aw:∀H0,a2 P H0 .len [31] [aD]=D (J X 8):=λH0=>by rw[av.len f_,List.length_map,Y];rfl
  have aA:=ad.b6 bP;simp-implicitDefEqProofs(disch:=try exact al)only[mE,tJ,bf,aq,aO,aG,aM,s,decide_true,i1,i2,ap,ar,ja aT,b8,cg,aw];refine DR l (B:=H.next) ai aA ai G ae ah M 8 0 N [] .aB H ai A (b4 _) rfl (bG.nil bu _ _ _) (aN.keep (.le λq a8=>ai)) (i3.keep (.le λq a8=>ai)) aT r bP ?_;intro lv H1 S aK;have R:ay H H1:=aK;have ab:=R.get bP;obtain⟨o,d,T,w,a3,a4,a5⟩:=bG.vB (K:=cQ bu) (ok:=(E<= ·)) (ok':=(E<= ·)) f_ az x R (a:=(List.range 8).map λc=>fy bS (ek p set c)) (cs:=[lv]) ⟨lv,rfl,S.Bs fK⟩ (λq a8=>by rcases a8 with h|h<;>omega) ai;have aL:(H1.push (.row Z 1 [[lv]])).next<=d.next:=by rw[ad.ds];exact a4
  have af:=(a3.2 zC z).trans bP;have st:=Z1 af w.aJ.one;have U:cS P (H1.push (.row Z 1 [[lv]])) [31,31] dv (.aJ H1.next 0 1 1 (D 1))=D (o,d):=T;simp-implicitDefEqProofs(disch:=try exact al)only[oG,mA,aq,aO,aG,aM,g2 ab,ZS _ S.aJ.one,U,st,c3 (show k<=1000000000 by omega)];have O:∀q,q≠zC->(d.set zC (.row Z 4 [bW cnt (.aJ F 0 m 1 (D m)) nn o])).get q=d.get q:=λq a8=>ad.cW (Ne.symm a8)
  have f:∀q,q<E->q≠zC->(d.set zC (.row Z 4 [bW cnt (.aJ F 0 m 1 (D m)) nn o])).get q=H.get q:=λq a8 n=>(O q n).trans (a3.2 q a8)
  have aU:H.next<=d.next:=a3.1
  refine on _ o _ ai ai (by simp;omega) am (w.keep λq b a8 g=>⟨a8,by rw[O q ai];exact g⟩) (aN.keep λq b a8 g=>⟨a8,by rw[f q ai ai];exact g⟩) (u.keep λq b a8 g=>⟨a8,by rw[f q ai ai];exact g⟩) ((f zX ai ai).trans aT) ((f F ai ai).trans r) (ad.dA ai) λi H' aE aF aH aI=>fin i H' aE aF (λq a8 n=>(aH q a8 n).trans (f q a8 n)) (by simp at aI;omega)
end
end
section
open Go.bp
section
variable {m:Nat}{p:dn}{L bS:List Nat}
def vT(b:e8 m p L)(aS:hY p L)(aA:j9 p L){s:Nat}(a:s<m):aW L s=dr (cH p) s:=by
 have e:=NC b aS aA;rw[e];exact wL (by simp[a])
def DQ(a:e8 m p L)(aS:hY p L)(aA:j9 p L){r:Nat}(b:r<=m):eQ L r=iC (cH p) r:=
 AH λs c=>by rw[vT a aS aA ai]
def NA(a:e8 m p L)(aS:hY p L)(aA:j9 p L){s:Nat}(b:s<m):fi L (aW L s)=et (cH p) s:=by
 have h:=(g3 (cH.g0 p).eqv s).2.1;rw[vT a aS aA b];unfold fi et;rw[DQ a aS aA ai]
def NB(b:e8 m p L)(aS:hY p L)(aA:j9 p L)(c:bS.length=m)(az:∀s,s<m->aW bS s=fi L (aW L s)):bS=(List.range m).map (et (cH p)):=by
 apply List.ext_getElem?;intro i;by_cases a:i<m
 ·rw[p7 ai,az i a,NA b aS aA a];simp[a]
 ·rw[List.getElem?_eq_none ai,List.getElem?_eq_none (by simp;omega)]
def DP(b:bS=(List.range m).map (et (cH p))){l:List Nat}(az:∀a∈l,a<m):fy bS l=k2 (cH p) l:=by
 cases l with
 |nil=>rfl
 |cons a bs=>
  have:=az a (by simp);subst b;simp[fy,k2,List.getD_eq_getElem?_getD,this]
def Nz(b:e8 m p L)(aS:hY p L)(aA:j9 p L){r:Nat}(c:r<m)(a:aW L r=r)(k:Nat):ek p (c_ L.length λs=>aW L s=r) k=kj p (cH p) m r k:=by
 unfold ek kj;have:(c_ L.length λs=>aW L s=r)=c_ m (cH p r):=by
  rw[b.len];refine AH λs d=> ?_
  rw[vT b aS aA d];rw[vT b aS aA c]at a;constructor
  ·intro e;exact(oh (cH.g0 p).eqv).1 (a.trans e.symm)
  ·intro e;exact((oh (cH.g0 p).eqv).2 e).symm.trans a
 rw[this]
def P_(g:May m p)(b:e8 m p L)(aS:hY p L)(aA:j9 p L)(n:bS.length=m)(az:∀s,s<m->aW bS s=fi L (aW L s)):merge p m=⟨(cC L).length,bS,p.nodes.map (fy bS),(cC L).map λset=>(List.range 8).map λf=>fy bS (ek p set f)⟩:=by
 have c:=NB b aS aA n az;have d:eQ L L.length=iC (cH p) m:=by rw[b.len];exact DQ b aS aA (b4 _)
 unfold merge jW
 congr 1
 ·simp[cC,d]
 ·exact c.symm
 ·exact List.map_congr_left λl o=>(DP c λa e=>g.nodes l o a e).symm
 ·rw[cC,d,List.map_map];refine List.map_congr_left λr i=> ?_
  have j:r<m/\aW L r=r:=by rw[<-d]at i;have:=om.1 i;rw[b.len]at this;exact this
  show(List.range 8).map _=(List.range 8).map (λf=>fy bS (ek p (c_ L.length λs=>aW L s=r) f));refine List.map_congr_left λk _=> ?_
  show _=fy bS (ek p _ k);rw[Nz b aS aA j.1 j.2 k];exact(DP c λa e=>by
   obtain⟨t,_,_,h⟩:=sW.1 e;exact(g.fe h).1).symm
end
def BS(v:aa):Prop:=∀L i n e c,v= .aJ L i n e (D c)->n<=c
def bG.cap{α:Type}{K:ej α}{B:Nat}{ok:Nat->Prop}{H:ad}{l:List α}{v:aa}(h:bG K B ok H l v):BS v:=by
 rcases h.eG with⟨rfl,_⟩|⟨L,els,cap,rfl,_,_,_,aA,_⟩
 ·intro L i n e c a;cases a
 ·intro L' i n e c a;rcases aA with rfl|rfl
  ·cases a
  ·cases a;exact b4 _
def nO(H:ad)(ok:Nat->Prop)(k:bp.eg)(v:aa):Prop:=∃ov nv fv,v= .agg (bW k.count ov nv fv)/\aZ bu H ok (bC k.of) ov/\aZ bu H ok k.nodes nv/\aZ (cQ bu) H ok k.fields fv/\BS nv
def Qj{H:ad}{ok:Nat->Prop}{m:Nat}{p:dn}{nv fv:aa}(f:gB m p)(o:aZ (cQ bu) H ok (p.nodes.map bC) nv)(S:aZ (cQ (cQ bu)) H ok (p.fields.map (·.map bC)) fv):
  W (aC P ax 132 [.agg [nv,fv]] H) λr H'=>∃ak,r= .tuple [ak,J X 0]/\nO H' (λL=>H.next<=L) (merge p m) ak/\ay H H':=by
 have hm:=f.hm;have bH:=f.nn;refine bZ (λ_=>TM (p.nodes.length+m+100)) ?_;obtain⟨zX,j⟩:∃zX,zX=H.next:=⟨_,rfl⟩
 have bs:=ay.push H (.row Z 2 [[nv,fv]]);have a4:=ad.bq H (.row Z 2 [[nv,fv]]);have aW:(H.push (.row Z 2 [[nv,fv]])).next=zX+1:=by rw[j];simp
 have aU:=ay.push (H.push (.row Z 2 [[nv,fv]])) (.row Z 4 [bW 0 .aB .aB .aB]);have an:=ad.bq (H.push (.row Z 2 [[nv,fv]])) (.row Z 4 [bW 0 .aB .aB .aB]);have Y:=aU.get a4;have bw:∀(k:aa->ad->O),cA (H.push (.row Z 2 [[nv,fv]])) [J X 0,.aB,.aB,.aB] k=k (.ptr (zX+1) 0 0) ((H.push (.row Z 2 [[nv,fv]])).push (.row Z 4 [bW 0 .aB .aB .aB])):=λk=>by rw[kQ,kR,aW];rfl
 rw[aW]at an;rw[<-j]at Y;simp only[qv,vH _ o.one S.one,lK,bw,<-j];generalize be:(H.push (.row Z 2 [[nv,fv]])).push (.row Z 4 [bW 0 .aB .aB .aB])=a0 at*;have bK:a0.next=zX+2:=by rw[<-be];simp[j]
 have V:=bs.trans aU;simp-implicitDefEqProofs(disch:=try exact al)only[aq,og Y];refine bk (Qn f (o.aI V) (S.aI V)) ?_;rintro _ a1 ⟨rfl,B⟩;refine⟨B.1,?_⟩;have ao:=B.get Y;have aH:∀H0,a2 P H0 .len [152] [fv]=D (J X (m:Nat)):=λH0=>by rw[S.len sT,List.length_map,f.len]
 have aN:∀H0,a2 P H0 .len [31] [nv]=D (J X (p.nodes.length:Nat)):=λH0=>by rw[o.len f_,List.length_map]
 simp-implicitDefEqProofs(disch:=try exact al)only[bf,aq,aO,aM,Bool.not_true,ja ao,aH];refine bk (Qt ai) ?_;rintro _ N ⟨rfl,f4,G⟩;refine⟨G.1,?_⟩;obtain⟨zD,bd⟩:∃zD,zD=a1.next:=⟨_,rfl⟩
 rw[<-bd]at f4 ⊢;have ab:=G.get ao;have ag:=(V.trans B).trans G;have bE:zX+2<=zD:=by have:=B.1;omega
 have aE:aZ (cQ bu) N (· <zX) (p.nodes.map bC) nv:=j▸o.below.aI ag;have aD:aZ (cQ (cQ bu)) N (· <zX) (p.fields.map (·.map bC)) fv:=j▸S.below.aI ag;simp-implicitDefEqProofs(disch:=try exact al)only[bf,aq,aO,aM,ja ab,aN];refine Fo f (ok:=(· <zX)) (λk d=>ai) p.nodes.length 0 _ _ N ai ai f4 (e8.start m p) aE (λl az=>by simp at az) ?_;intro L5 aj f5 aT br af;simp-implicitDefEqProofs(disch:=try exact al)only[oD];have bi:aZ (cQ (cQ bu)) aj (· <zX) (p.fields.map (·.map bC)) fv:=aD.keep (.mut af λk d e=>ai);refine Fk f (ok:=(· <zX)) (λk d=>ai) (zX:=zX) ai o.one _ L5 aj (by have:=QD L5;have:=aT.len;omega) f5 aT br bi (af.get ab ai) ?_
 intro L bB f6 t cn g0 bo;simp-implicitDefEqProofs(disch:=try exact al)only[oE,aq];refine bk (Io f6 (by have:=t.len;omega)) ?_;rintro xv c ⟨f7,aX,aS⟩;refine⟨aS.1,?_⟩;have x:=(af.trans bo).trans aS;have ap:=x.get ab ai;have bb:c.get (zX+1)=D (.row Z 4 [bW 0 .aB .aB .aB]):=x.get (G.get (B.get an)) ai;have bJ:(cC L).length<=m:=by
  have:=qf (L:=L) L.length;have:=t.len;simp only[cC,List.length_map];omega
 have aR:∀H0,a2 P H0 .len [31] [xv]=D (J X (cC L).length):=λH0=>by rw[aX.len f_,List.length_map]
 obtain⟨F,Q⟩:∃F,F=c.next:=⟨_,rfl⟩
 have bt:=ay.push c (.row Z 1 (dM (List.replicate m 0)));have K:(c.push (.row Z 1 (dM (List.replicate m 0)))).next=F+1:=by rw[Q];simp
 have aV:=ay.push (c.push (.row Z 1 (dM (List.replicate m 0)))) (.row Z 4 [bW (cC L).length (.aJ F 0 m 1 (D m)) .aB .aB]);have a3:c7 P 33 [(0,J X (cC L).length),(1,.aJ F 0 m 1 (D m))]=D (.agg (bW (cC L).length (.aJ F 0 m 1 (D m)) .aB .aB)):=CH rfl rfl;have bx:∀(k:aa->ad->O),cA (c.push (.row Z 1 (dM (List.replicate m 0)))) [J X 0,.aB,.aB,.aB] k=k (.ptr (F+1) 0 0) ((c.push (.row Z 1 (dM (List.replicate m 0)))).push (.row Z 4 [bW 0 .aB .aB .aB])):=λk=>by rw[kQ,kR,K];rfl
 have bv:bA P ((c.push (.row Z 1 (dM (List.replicate m 0)))).push (.row Z 4 [bW 0 .aB .aB .aB])) 33 (.ptr (F+1) 0 0) (.agg (bW (cC L).length (.aJ F 0 m 1 (D m)) .aB .aB))=D ((c.push (.row Z 1 (dM (List.replicate m 0)))).push (.row Z 4 [bW (cC L).length (.aJ F 0 m 1 (D m)) .aB .aB])):=by
  have g:=ad.bq (c.push (.row Z 1 (dM (List.replicate m 0)))) (.row Z 4 [bW 0 .aB .aB .aB]);rw[K]at g;rw[kO g rfl rfl rfl rfl,<-K,ad.jd]
 have aw:=aV.get (ad.bq c (.row Z 1 (dM (List.replicate m 0))));have ae:=ad.bq (c.push (.row Z 1 (dM (List.replicate m 0)))) (.row Z 4 [bW (cC L).length (.aJ F 0 m 1 (D m)) .aB .aB]);rw[K]at ae;rw[<-Q]at aw;have v:=bt.trans aV;have mk:=Fm F m ai;simp only[aR,aH,bf,lJ,aM,ja ap,<-Q,mk,lK,a3,bx,bv];rw[pk (by simp)];generalize bg:(c.push (.row Z 1 (dM (List.replicate m 0)))).push (.row Z 4 [bW (cC L).length (.aJ F 0 m 1 (D m)) .aB .aB])=i at*;have n9:i.next=F+2:=by rw[<-bg,ad.ds,K]
 have bD:zD+1<F:=by have:=f7.lt;omega
 have aY:aZ (cQ bu) i (· <F) ((cC L).map bC) xv:=Q▸aX.below.aI v;have bl:aZ (cQ bu) i (· <F) (p.nodes.map bC) nv:=((aE.keep (.mut x λk d e=>ai)).aI v).keep (.le λk d=>ai);have bj:aZ (cQ (cQ bu)) i (· <F) (p.fields.map (·.map bC)) fv:=((aD.keep (.mut x λk d e=>ai)).aI v).keep (.le λk d=>ai);have a6:=v.get ap;have bc:=v.get bb;refine FN (m:=m) (L:=L) (ok':=(· <F)) (λk d=>d) (show F<F+1 by omega) t.len hm t.jJ ai (cC L).length 0 _ (List.replicate m 0) i ai ai (by simp) (λs bI bF=>ai) aw ae aY ?_;intro bS ah R bh au z n10;have a7:=(z (F+1) ai).trans ae;have am:=(z zX ai).trans a6;have aF:eB i (· <F) ah (· <F):=λq b a8 g=>⟨a8,by rw[z q ai];exact g⟩
 simp-implicitDefEqProofs(disch:=try exact al)only[lo,bf,aq,aO,aM,ja am,aN];refine Fv f (ok:=(· <F)) (λk d=>ai) (show F<F+1 by omega) R p.nodes.length 0 _ [] .aB ah ai ai rfl (bG.nil bu _ _ _) au a7 (bl.keep aF) ?_;intro u M aP ar A n11;have aG:eB i (· <F) M (· <F):=aF.trans λq b a8 g=>⟨a8,by rw[A q ai];exact g⟩
 have av:=(A F ai).trans au;have a5:=(A zX ai).trans am;simp-implicitDefEqProofs(disch:=try exact al)only[oF,bf,aR];have bm:=ad.b6 ar;refine D2 f (E:=M.next) (show F<F+1 by omega) bm ai R t o.one ai (cC L).length 0 _ [] .aB M ai ai (b4 _) rfl (bG.nil (cQ bu) _ _ _) (bj.keep aG) (aY.keep aG) a5 av ar ?_;intro w h aL a9 T n12;have aA:h.get (zX+1)=D (.row Z 4 [bW 0 .aB .aB .aB]):=by rw[T _ ai ai,A _ ai,z _ ai];exact bc
 have aQ:aZ bu h (λk=>F+2<=k) (p.nodes.map (fy bS)) u:=(aP.Bs fK).keep λq b a8 g=>⟨a8,by rw[T q (ad.b6 g) ai];exact g⟩
 have a_:=(T F ai ai).trans av;have bn:=ad.b6 aA;have st:=kO aA rfl (n:=(cC L).length) (a:= .aJ F 0 m 1 (D m)) rfl aQ.one aL.aJ.one;have ba:(h.set (zX+1) (.row Z 4 [bW (cC L).length (.aJ F 0 m 1 (D m)) u w])).get (zX+1)=D (.row Z 4 [bW (cC L).length (.aJ F 0 m 1 (D m)) u w]):=ad.dA bn;have U:∀q,q≠zX+1->(h.set (zX+1) (.row Z 4 [bW (cC L).length (.aJ F 0 m 1 (D m)) u w])).get q=h.get q:=λq a8=>ad.cW (Ne.symm a8)
 have n13:(h.set (zX+1) (.row Z 4 [bW (cC L).length (.aJ F 0 m 1 (D m)) u w])).next=h.next:=by simp
 simp-implicitDefEqProofs(disch:=try exact al)only[ky,aq,ko a9,st,ko ba];generalize h.set (zX+1) (.row Z 4 [bW (cC L).length (.aJ F 0 m 1 (D m)) u w])=bz at*;rw[P_ f.toMay t cn g0 R bh];have bp:∀q,q<zX->c.get q=N.get q:=λq a8=>x.2 q (by have:=G.1;omega) ai
 refine aK.2 ⟨_,rfl,⟨_,_,_,rfl,?_,?_,?_,aP.cap⟩,?_,?_⟩
 ·exact Iw R ((U F ai).trans a_) _ ai
 ·exact aQ.keep λq b (a8:F+2<=q) g=>⟨show zX<=q by omega,by rw[U q ai];exact g⟩
 ·exact aL.aJ.keep λq b (a8:M.next<=q) g=>⟨show zX<=q by omega,by rw[U q ai];exact g⟩
 ·have:=V.1;omega
 ·intro q a8;rw[U q ai,T q ai ai,A q ai,z q ai,v.2 q ai,bp q ai,ag.2 q a8]
