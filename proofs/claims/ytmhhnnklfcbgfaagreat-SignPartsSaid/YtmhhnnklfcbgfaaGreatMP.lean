/-
  Texts of one proof, laid together: Rc Rd Re Rf Rg Rh ShH Ri Rj Rk.
-/
import Derived.Test.YtmhhnnklfcbgfaaGreatMO
set_option linter.unusedVariables false
set_option linter.unusedSimpArgs false
set_option linter.defProp false
open Option renaming some→D,none→I
open Bool renaming true→C,false→Z
open Go.bz.ae renaming int→J,bool→A
open Go.IntKind renaming i64→X
namespace Go.Proofs.YtmhhnnklfcbgfaaGreat
open Go.bz
section
open Go.a2
set_option maxRecDepth 2000
structure hz(m:Nat)(p:dq):Prop extends May m p where
 hm:m<=60
 nl:∀N∈p.nodes,N.length<=60
 ez:∀fs∈p.fields,∀l∈fs,l.length<=60
 nn:p.nodes.length<=1000000
def U6{n m:Nat}{l:List bB}(hm:m<=60)(aH:n<=1000000):hz m (gJ n m l):=by
 refine {U7 n m (dG n l)with hm:=hm,nl:= ?_,ez:= ?_,nn:=by simpa [gJ,hZ]using aH}
 ·intro N a;simp only[gJ,hZ,List.mem_map]at a;obtain⟨v,_,rfl⟩:=a;have:=j_ m (dG n l v);omega
 ·intro fs b d c;simp only[gJ,hZ,List.mem_map]at b;obtain⟨t,_,rfl⟩:=b;simp only[List.mem_map]at c;obtain⟨k,_,rfl⟩:=c;have:=j_ m (dG n l (n+t*8+k));omega
def hz.vk{m:Nat}{p:dq}(h:hz m p){t k:Nat}(a1:t<m)(c:k<8):∃fs,p.fields[t]? =D fs/\fs[k]? =D (p.gq t k)/\fs.length=8:=by
 have al:=h.len;have a:p.fields[t]? =D p.fields[t]:=List.getElem?_eq_getElem aa;have b:=h.wid _ (List.getElem_mem (by omega:t<p.fields.length));refine⟨_,a,?_,b⟩;unfold dq.gq;rw[a,Option.bind_some,List.getElem?_eq_getElem aa];rfl
def hz.G5{m:Nat}{p:dq}(h:hz m p)(t k:Nat):(p.gq t k).length<=60:=by
 unfold dq.gq;cases e:p.fields[t]? with
 |none=>simp
 |some fs=>
  simp only[Option.bind_some];cases a:fs[k]? with
  |none=>simp
  |some l=>exact h.ez fs (List.mem_of_getElem? e) l (List.mem_of_getElem? a)
section
variable {H:ad}{ok:Nat->Prop}
def ZU{B m a:Nat}(g:H.get B=D (.row Z 1 [[J X (m:Nat)]]))(d:a<m):W (aQ P aK 253 [J X (a:Nat),.ptr B 0 0] H) λr H'=>r= A Z/\H'=H:=by
 refine Yx 0 ?_;have b:¬(a:Int)<0:=aa;have c:¬(m:Int)<=(a:Int):=aa;simp-implicitDefEqProofs(disch:=try exact ai)only[CY,aj,aC,b,c,decide_false,hr g];exact aG.2 ⟨rfl,rfl⟩
def HV{l:List Nat}{v:ae}{B m:Nat}(hw:∀a∈l,a<m)(d:l.length<=1000000000)(al:aO aT H ok (aX l) v)(g:H.get B=D (.row Z 1 [[J X (m:Nat)]])){N:Nat}:∀(j k q:Nat),k+j=l.length->j<q->
  W (tK (aQ P aK) N q v (.func (.func 253) [] [.ptr B 0 0]) (J X l.length) (J X k) H) λr H'=>r= J X (-1)/\H'=H
 |_,_,0,_,hm=>aa
 |0,k,q+1,e,_=>by
  have b:¬(k:Int)<(l.length:Int):=aa;simp-implicitDefEqProofs(disch:=try exact ai)only[tK,xU,C1,aj,aC,b,decide_false];exact aG.2 ⟨rfl,rfl⟩
 |j+1,k,q+1,e,hm=>by
  have b:(k:Int)<(l.length:Int):=aa;have c:k<l.length:=aa;obtain⟨p,i1,i2⟩:=al.int (j:=(k:Int)) (a:=((l[k]:Nat):Int)) aa (by simp[aX,c]);have f:=hw _ (List.getElem_mem c);have on:=HV (B:=B) (v:=v) hw d al g (N:=N) j (k+1) q;simp-implicitDefEqProofs(disch:=try exact ai)only[tK,xU,aj,aJ,aC,b,decide_true,i1,i2,oe,nu];refine eu (ZU g f) ?_;simp-implicitDefEqProofs(disch:=try exact ai)only[aj,aC,cq (show k<=1000000000 by omega)];exact on aa aa
def PS{l:List Nat}{v:ae}{B m:Nat}(hw:∀a∈l,a<m)(b:l.length<=1000000000)(al:aO aT H ok (aX l) v)(g:H.get B=D (.row Z 1 [[J X (m:Nat)]])):
  W (aQ P aK 252 [v,.func (.func 253) [] [.ptr B 0 0]] H) λr H'=>r= A Z/\H'=H:=by
 refine Yw 0 ?_;have hlen:(aX l).length=l.length:=by simp[aX]
 have key:W (aQ P aK 261 [v,.func (.func 253) [] [.ptr B 0 0]] H) λr H'=>r= J X (-1)/\H'=H:=by
  refine YC (l.length+1) ?_;simp-implicitDefEqProofs(disch:=try exact ai)only[C0,br,al.len b6,hlen];exact HV hw b al g l.length 0 (l.length+1) aa aa
 simp-implicitDefEqProofs(disch:=try exact ai)only[CX,aj];refine eu key ?_;simp-implicitDefEqProofs(disch:=try exact ai)only[aj,aC];exact aG.2 ⟨rfl,rfl⟩
def I4{ls:List (List Nat)}{v:ae}{B m:Nat}(hw:∀l∈ls,∀a∈l,a<m)(c:∀l∈ls,l.length<=60)(f:ls.length<=1000000000)(al:aO (b1 aT) H ok (ls.map aX) v)(g:H.get B=D (.row Z 1 [[J X (m:Nat)]])){N:Nat}:∀(j k q:Nat),k+j=ls.length->j<q->
  W (tt (aQ P aK) N q (.ptr B 0 0) v (J X ls.length) (J X k) H) λr H'=>r= A C/\H'=H
 |_,_,0,_,hm=>aa
 |0,k,q+1,h,_=>by
  have b:¬(k:Int)<(ls.length:Int):=aa;simp-implicitDefEqProofs(disch:=try exact ai)only[tt,xI,CI,aj,aC,b,decide_false];exact aG.2 ⟨rfl,rfl⟩
 |j+1,k,q+1,h,hm=>by
  have b:(k:Int)<(ls.length:Int):=aa;have d:k<ls.length:=aa;obtain⟨p,w,i1,i2,i3⟩:=al.list (j:=(k:Int)) (a:=aX ls[k]) aa (by simp[d]);have e:=List.getElem_mem d;have on:=I4 (B:=B) (v:=v) hw c f al g (N:=N) j (k+1) q;simp-implicitDefEqProofs(disch:=try exact ai)only[tt,xI,aj,aC,b,decide_true,i1,i2];refine eu (PS (hw _ e) (by have:=c _ e;omega) i3 g) ?_;simp-implicitDefEqProofs(disch:=try exact ai)only[aj,aC,cq (show k<=1000000000 by omega)];exact on aa aa
def I5{ls:List (List Nat)}{v:ae}{m:Nat}(hw:∀l∈ls,∀a∈l,a<m)(d:∀l∈ls,l.length<=60)(c:ls.length<=1000000000)(al:aO (b1 aT) H ok (ls.map aX) v):
  W (aQ P aK 226 [v,J X (m:Nat)] H) λr H'=>r= A C/\av H H':=by
 refine Yg (ls.length+1) ?_;have b:=av.push H (.row Z 1 [[J X (m:Nat)]]);have hlen:(ls.map aX).length=ls.length:=by simp
 simp-implicitDefEqProofs(disch:=try exact ai)only[CH,br,aj,FE,al.len e4,hlen];exact(I4 hw d c (al.aE b) (ad.a_ _ _) ls.length 0 _ aa aa).mono λr H' q=>⟨q.1,q.2▸b⟩
def aO.r_{l:List (List (List Int))}{v:ae}(h:aO (b1 (b1 aT)) H ok l v){j:Int}{a:List (List Int)}(b:0<=j)(c:l[j.toNat]? =D a):∃p w,cm P 152 v (J X j)=D p/\aI P H 31 p=D w/\aO (b1 aT) H ok a w:=by
 obtain⟨p,cs,d,e,w,rfl,f⟩:=aO.val (K:=b1 (b1 aT)) sb aF h b c;exact⟨p,w,d,e,f⟩
def u3(l:Nat){x y:ae}(aA:x.one=C)(a:y.one=C):fe l (.agg [x,y])=D (.ptr l 0 0,.row Z 2 [[x,y]]):=by simp[fe,ae.cells,aA,a]
def IQ{m:Nat}{p:dq}(b:hz m p){zX:Nat}{nv fv:ae}{N:Nat}:∀(j k q:Nat) (H:ad),k+j=m->j<q->aO (b1 (b1 aT)) H ok (p.fields.map (·.map aX)) fv->H.get zX=D (.row Z 2 [[nv,fv]])->
  W (s7 (aQ P aK) N q (.ptr zX 0 0) (J X m) fv (J X m) (J X k) H) λr H'=>r= A C/\av H H'
 |_,_,0,_,_,hm,_,_=>aa
 |0,k,q+1,H,o,_,az,g=>by
  have d:¬(k:Int)<(m:Int):=aa;simp-implicitDefEqProofs(disch:=try exact ai)only[s7,xp,Cl,aj,aC,d,decide_false];exact aG.2 ⟨rfl,.refl _⟩
 |j+1,k,q+1,H,o,hm,az,g=>by
  have d:(k:Int)<(m:Int):=aa;have B:k<m:=aa;have y:=b.len;have E:=b.hm;have h:p.fields[0]? =D p.fields[0]:=List.getElem?_eq_getElem aa;have i:p.fields[k]? =D p.fields[k]:=List.getElem?_eq_getElem aa;have w:=List.getElem_mem (by omega:0<p.fields.length);have mk:=List.getElem_mem (by omega:k<p.fields.length);obtain⟨G,w0,i1,i2,i3⟩:=az.r_ (j:=0) (a:=p.fields[0].map aX) aa (by simp[h]);obtain⟨c,x,s,t,e⟩:=az.r_ (j:=(k:Int)) (a:=p.fields[k].map aX) aa (by simp[i]);have u:∀H0,bL P H0 .len [31] [w0]=D (J X 8):=λH0=>by rw[i3.len e4,List.length_map,b.wid _ w];rfl
  have v:∀H0,bL P H0 .len [31] [x]=D (J X 8):=λH0=>by rw[e.len e4,List.length_map,b.wid _ mk];rfl
  have on:=IQ b (zX:=zX) (nv:=nv) (fv:=fv) (N:=N) j (k+1) q;have f:((8:Int) != 8)=false:=rfl;have e3:¬(8:Int)>8:=bU;simp-implicitDefEqProofs(disch:=try exact ai)only[s7,xp,br,aj,aJ,aC,aL,d,decide_true,i1,i2,s,t,u,v,kB g,f,e3,decide_false];refine cx (I5 (λl al a n=>b.gq _ mk l al a n) (b.ez _ mk) (by rw[b.wid _ mk];omega) e) ?_;rintro _ H1 ⟨rfl,c⟩;refine⟨c.1,?_⟩;simp-implicitDefEqProofs(disch:=try exact ai)only[aj,aC,cq (show k<=1000000000 by omega),Bool.not_true];exact(on H1 aa aa (az.aE c) (c.get g)).mono λr H' z=>⟨z.1,c.trans z.2⟩
def Vr{m:Nat}{p:dq}(a:hz m p){nv fv:ae}(g:aO (b1 aT) H ok (p.nodes.map aX) nv)(c:aO (b1 (b1 aT)) H ok (p.fields.map (·.map aX)) fv):
  W (aQ P aK 185 [.agg [nv,fv]] H) λr H'=>r= A C/\av H H':=by
 refine X0 (m+1) ?_;have d:=av.push H (.row Z 2 [[nv,fv]]);have e:=ad.a_ H (.row Z 2 [[nv,fv]]);have j:=a.hm;have h:∀H0,bL P H0 .len [152] [fv]=D (J X (m:Nat)):=λH0=>by rw[c.len sb,List.length_map,a.len]
 have e3:¬(m:Int)>60:=aa;have i:¬(60:Int)<(m:Int):=aa;simp-implicitDefEqProofs(disch:=try exact ai)only[Ck,br,aj,aJ,aC,aL,u3 _ g.one c.one,kB e,h,e3,decide_false];refine cx (I5 (ls:=p.nodes) a.nodes a.nl (by have:=a.nn;omega) (g.aE d)) ?_;rintro _ H1 ⟨rfl,b⟩;refine⟨b.1,?_⟩;have f:=b.get e;simp-implicitDefEqProofs(disch:=try exact ai)only[br,aj,aJ,aL,kB f,h,Bool.not_true];exact(IQ a m 0 _ H1 aa aa ((c.aE d).aE b) f).mono λr H' z=>⟨z.1,(d.trans b).trans z.2⟩
def gm(of:List Nat):List Nat->Int
 |[]=> -1
 |a::_=>((of.getD a 0:Nat):Int)
def FZ{of l:List Nat}{ov lv:ae}{ok':Nat->Prop}(aR:aO aT H ok (aX of) ov)(al:aO aT H ok' (aX l) lv)(aA:∀a∈l,a<of.length):W (aQ P aK 190 [ov,lv] H) λr H'=>r= J X (gm of l)/\H'=H:=by
 refine X5 0 ?_;have hlen:(aX l).length=l.length:=by simp[aX]
 cases l with
 |nil=>
  simp-implicitDefEqProofs(disch:=try exact ai)only[xB,br,aj,aJ,aC,al.len b6,hlen];exact aG.2 ⟨rfl,rfl⟩
 |cons a bs=>
  have b:=aA a (by simp);obtain⟨p,i1,i2⟩:=al.int (j:=0) (a:=((a:Nat):Int)) aa (by simp[aX]);obtain⟨c,i3,i4⟩:=aR.int (j:=(a:Int)) (a:=((of.getD a 0:Nat):Int)) aa (by simp[aX,List.getD_eq_getElem?_getD,b]);have e:(((bs.length+1:Nat):Int)==0)=false:=beq_eq_false_iff_ne.2 aa;simp-implicitDefEqProofs(disch:=try exact ai)only[xB,br,aj,aJ,aC,al.len b6,hlen,e,i1,i2,i3,i4];exact aG.2 ⟨rfl,rfl⟩
def eF(p:dq)(set:List Nat)(k:Nat):List Nat:=set.flatMap λt=>p.gq t k
def Hi{m:Nat}{p:dq}(d:hz m p){set:List Nat}(o:∀t∈set,t<m)(K:set.length<=1000){cr zX B:Nat}(n:cr<8){nv fv sv:ae}{ok':Nat->Prop}{N:Nat}(i:zX<B):∀(j k q:Nat) (H:ad) (l:List Int) (v:ae),k+j=set.length->j<q->aO (b1 (b1 aT)) H (· <B) (p.fields.map (·.map aX)) fv->aO aT H (· <B) (aX set) sv->H.get zX=D (.row Z 2 [[nv,fv]])->bq aT B bk H l v->B<=H.next->l.length<=60*k->
  W (ti (aQ P aK) N q (J X (cr:Nat)) (.ptr zX 0 0) v sv (J X set.length) (J X k) H) λr H'=>bq aT B bk H' (l++aX (eF p (set.drop k) cr)) r/\cT B H H'
 |_,_,0,_,_,_,_,hm,_,_,_,_,_,_=>aa
 |0,k,q+1,H,l,v,G,_,az,e,g,f,h,_=>by
  have b:¬(k:Int)<(set.length:Int):=aa;simp-implicitDefEqProofs(disch:=try exact ai)only[ti,xC,Cw,aj,aC,b,decide_false];rw[List.drop_of_length_le aa];exact aG.2 ⟨by simpa [eF,aX]using f,.refl _ _⟩
 |j+1,k,q+1,H,l,v,G,hm,az,e,g,f,h,hle=>by
  have b:(k:Int)<(set.length:Int):=aa;have c:k<set.length:=aa;have a1:=o _ (List.getElem_mem c);obtain⟨U,i1,i2⟩:=e.int (j:=(k:Int)) (a:=((set[k]:Nat):Int)) aa (by simp[aX,c]);have on:=Hi d o K n (nv:=nv) (fv:=fv) (sv:=sv) (ok':=ok') (N:=N) i j (k+1) q;rw[List.drop_eq_getElem_cons c];generalize set[k]=t at*;obtain⟨fs,w,x,S⟩:=d.vk a1 n;obtain⟨V,ab,L,M,O⟩:=az.r_ (j:=(t:Int)) (a:=fs.map aX) aa (by simp[w]);obtain⟨Y,af,bR,b0,Q⟩:=O.list (j:=(cr:Int)) (a:=aX (p.gq t cr)) aa (by simp[x]);have T:=d.G5 t cr;have E:l.length+(aX (p.gq t cr)).length<=1000000000:=by simp[aX];omega
  obtain⟨R,H1,s,u,a3,a4,a5⟩:=f.ints h Q E;have y:B<=H1.next:=by have:=a3.1;omega
  have nn:H.next<=H1.next:=a3.1
  simp-implicitDefEqProofs(disch:=try exact ai)only[ti,xC,aj,aJ,aC,aL,b,decide_true,i1,i2,kB g,L,M,bR,b0,s,cq (show k<=1000000000 by omega)];refine(on H1 _ R aa aa (az.gy a3) (e.gy a3) ((a3.2 zX i).trans g) u y (by simp[aX];omega)).mono λr H' z=>⟨?_,a3.trans z.2⟩
  have:=z.1;rw[List.append_assoc]at this;simpa [eF,aX]using this
def Hj{m:Nat}{p:dq}(j:hz m p){set:List Nat}(l:∀t∈set,t<m)(o:set.length<=1000){cr:Nat}(h:cr<8){nv fv sv:ae}{ok':Nat->Prop}(i:nv.one=C)(az:aO (b1 (b1 aT)) H ok (p.fields.map (·.map aX)) fv)(b:aO aT H ok' (aX set) sv):
  W (aQ P aK 191 [.agg [nv,fv],sv,J X (cr:Nat)] H) λr H'=>bq aT H.next bk H' (aX (eF p set cr)) r/\av H H':=by
 refine X6 (set.length+1) ?_;have a:=av.push H (.row Z 2 [[nv,fv]]);have d:=ad.a_ H (.row Z 2 [[nv,fv]]);have hlen:(aX set).length=set.length:=by simp[aX]
 simp-implicitDefEqProofs(disch:=try exact ai)only[Cv,br,aj,u3 _ i az.one,b.len b6,hlen];refine(Hi j l o h (B:=H.next+1) (ok':=ok') aa set.length 0 _ _ [] .aB aa aa ((az.below.aE a).keep (.le λL f=>aa)) ((b.below.aE a).keep (.le λL f=>aa)) d (bq.nil aT _ _ _) (by simp) (by simp)).mono λr H' z=>⟨⟨?_,λL n c e=>by have:=z.1.low L n c e;omega⟩,?_⟩
 ·simpa using z.1.e9
 ·exact⟨by have:=z.2.1;simp at this;omega,λk g=>(z.2.2 k aa).trans (a.2 k g)⟩
end
end
section
open Go.a2
set_option maxRecDepth 2000
def bq.q7{α:Type}{K:ek α}(c:Plain K){B:Nat}{H:ad}{l:List α}{v:ae}(h:bq K B bk H l v):aO K H (λk=>B<=k) l v:=by
 rcases h.e9 with af|⟨L,els,cap,a,i,d,m,n,e⟩
 ·exact .inl af
 ·exact .inr (.inl ⟨L,0,cap,Z,els,a,h.low _ _ _ a,d,aa,λj x b=>by
   obtain⟨cs,f,g⟩:=e j x b;exact⟨cs,by rw[Nat.zero_add];exact f,c g⟩⟩)
def U_{L set:List Nat}(h:set∈cA L):∃r,r<L.length/\aW L r=r/\set=cY L.length λs=>aW L s=r:=by
 simp only[cA,List.mem_map]at h;obtain⟨r,au,rfl⟩:=h;exact⟨r,(o0.1 au).1,(o0.1 au).2,rfl⟩
def ZO{L:List Nat}(g:a2.Good L){s:Nat}(a:s<L.length):(cY L.length λt=>aW L t=aW L s)∈cA L:=by
 simp only[cA,List.mem_map];exact⟨aW L s,o0.2 ⟨g.lt a,g.id s⟩,rfl⟩
def Lt{m:Nat}{p:dq}{L set:List Nat}(h:fE m p L)(b:set∈cA L):(∀t∈set,t<m)/\set.length<=m/\(∀s∈set,∀t∈set,ds p s t)/\∃t,set[0]? =D t:=by
 obtain⟨r,af,ah,rfl⟩:=U_ b;rw[h.len]at af ⊢;refine⟨λt a1=>(fB.1 a1).1,j_ _ _,λs b t a1=>h.sub s t ?_,?_⟩
 ·show aW L s=aW L t;rw[(fB.1 b).2,(fB.1 a1).2]
 ·have au:r∈cY m λs=>aW L s=r:=fB.2 ⟨af,ah⟩
  cases e:cY m λs=>aW L s=r with
  |nil=>rw[e]at au;simp at au
  |cons a l=>exact⟨a,rfl⟩
def qa{p:dq}{set:List Nat}{k a:Nat}:a∈eF p set k↔∃t∈set,a∈p.gq t k:=by simp[eF]
def SE{m:Nat}{p:dq}(a:hz m p)(set:List Nat)(k:Nat):(eF p set k).length<=60*set.length:=by
 unfold eF
 induction set with
 |nil=>simp
 |cons t ts b=>simp only[List.flatMap_cons,List.length_append,List.length_cons];have:=a.G5 t k;omega
section
variable {zD m:Nat}{p:dq}{ok Bf okv:Nat->Prop}{nv fv sv:ae}{zX:Nat}
def GZ{set:List Nat}(i:hz m p)(M:∀k,ok k->k≠zD)(R:∀k,Bf k->k≠zD)(B:zX≠zD)(K:nv.one=C)(S:∀t∈set,t<m)(ao:set.length<=m)(U:∀s∈set,∀t∈set,ds p s t){x10 x11 x12:ae}{L1:ae->ae->ae->ae->ae->ae->ad->O}{Q:ae->ad->Prop}{N:Nat}:
  ∀(j k q:Nat) (L:List Nat) (b:Bool) (H:ad),k+j=8->j<q->eC zD L H->fE m p L->aO (b1 (b1 aT)) H ok (p.fields.map (·.map aX)) fv->aO aT H Bf (aX set) sv->H.get zX=D (.row Z 2 [[nv,fv]])->
  (∀(L':List Nat) (b':Bool) (H':ad),eC zD L' H'->fE m p L'->iw L L'->(b'=C->b=C\/ht L'<ht L)->(b'=Z->b=Z/\L'=L)->(∀cr,k<=cr->cr<8->∀a∈eF p set cr,∀c∈eF p set cr,eJ L' a c)->e8 (· =zD) H H'->
   W (o_ (aQ P aK) N L1 (.ptr (zD+1) 0 0) (.ptr zX 0 0) (A b') x10 x11 x12 H') Q)->
  W (td (aQ P aK) N L1 q (.ptr (zD+1) 0 0) (.ptr zX 0 0) (A b) sv x10 x11 x12 (J X 8) (J X k) H) Q
 |_,_,0,_,_,_,_,hm,_,_,_,_,_,_=>aa
 |0,k,q+1,L,b,H,f,_,h,r,az,v,g,fin=>by
  have u:¬(k:Int)<8:=aa;simp-implicitDefEqProofs(disch:=try exact ai)only[td,xt,aj,aC,u,decide_false];exact fin L b H h r (.refl h.g) (λe=> .inl e) (λe=>⟨e,rfl⟩) (λcr af ah=>aa) (.refl _ _)
 |j+1,k,q+1,L,b,H,f,hm,h,r,az,v,g,fin=>by
  have u:(k:Int)<8:=aa;have am:k<8:=aa;have ay:=i.hm;have on:=GZ i M R B K S ao U (x10:=x10) (x11:=x11) (x12:=x12) (L1:=L1) (Q:=Q) (N:=N) j (k+1) q;simp-implicitDefEqProofs(disch:=try exact ai)only[td,xt,aj,aC,u,decide_true,oV g];refine aZ (Hj i S aa am K az v) ?_;rintro gv H1 ⟨au,w⟩;refine⟨w.1,?_⟩;have aw:=h.lt;have z:=r.len;have ax:=SE i set k;have o:∀x∈eF p set k,x<L.length:=λx aA=>by
   obtain⟨t,_,ah⟩:=qa.1 aA;rw[z];exact(i.toMay.ez ah).1
  have ap:∀a∈eF p set k,∀c∈eF p set k,ds p a c:=λa n c aq=>by
   obtain⟨s,af,ah⟩:=qa.1 n;obtain⟨t,an,aM⟩:=qa.1 aq;exact .field (U s af t an) ah aM
  simp-implicitDefEqProofs(disch:=try exact ai)only[aj];refine aZ (Mn (ok:=λq=>H.next<=q) (λq aN e=>aa) aa (h.aE w) aa o (au.q7 fP)) ?_;rintro _ d ⟨ag,rfl,ah,Y,av,ak⟩;refine⟨Y.1,?_⟩;have l:=(w.mut (· =zD)).trans Y;have ab:=r.Mk (λx aA=>by rw[<-z];exact o x aA) ap;have V:=D_ h.g o;have rel:=Ml h.g o;have G:aO (b1 (b1 aT)) d ok (p.fields.map (·.map aX)) fv:=az.keep (.mut l λk f e=>M k f e);have T:aO aT d Bf (aX set) sv:=v.keep (.mut l λk f e=>R k f e);have y:d.get zX=D (.row Z 2 [[nv,fv]]):=l.get g B;have E:∀{L':List Nat},iw (oc L (eF p set k)) L'->(∀cr,k+1<=cr->cr<8->∀a∈eF p set cr,∀c∈eF p set cr,eJ L' a c)->∀cr,k<=cr->cr<8->∀a∈eF p set cr,∀c∈eF p set cr,eJ L' a c:=λar al cr af ah a n c aq=>by
   by_cases e:cr=k
   ·subst e;exact ar.le _ _ (rel a n c aq)
   ·exact al cr aa ah a n c aq
  cases ag with
  |true=>
   simp-implicitDefEqProofs(disch:=try exact ai)only[Cr,aj,aC,cq (show k<=1000000000 by omega)];refine on _ C d aa aa ah ab G T y ?_;intro L' b' H' f1 f2 f3 f4 f5 f6 f7;have aH:=av rfl;have hle:=f3.vY;exact fin L' b' H' f1 f2 (V.trans f3) (λ_=> .inr aa) (λe=>absurd (f5 e).1 bU) (E f3 f6) (l.trans f7)
  |false=>
   simp-implicitDefEqProofs(disch:=try exact ai)only[Cr,aj,aC,cq (show k<=1000000000 by omega)];refine on _ b d aa aa ah ab G T y ?_;intro L' b' H' f1 f2 f3 f4 f5 f6 f7;have aH:=ak rfl;exact fin L' b' H' f1 f2 (V.trans f3) (λe=>(f4 e).imp id λq=>by rw[aH]at q;exact q) (λe=>⟨(f5 e).1,(f5 e).2.trans aH⟩) (E f3 f6) (l.trans f7)
def Ha(l:hz m p)(u:∀k,ok k->k≠zD)(v:∀k,okv k->k≠zD)(n:zX≠zD)(M:nv.one=C){L0:List Nat}(i:fE m p L0){xv:ae}{N:Nat}(E:8<N):
  ∀(j k q:Nat) (L:List Nat) (b:Bool) (H:ad),k+j=(cA L0).length->j<q->eC zD L H->fE m p L->aO (b1 (b1 aT)) H ok (p.fields.map (·.map aX)) fv->aO (b1 aT) H okv ((cA L0).map aX) xv->H.get zX=D (.row Z 2 [[nv,fv]])->
  W (tc (aQ P aK) N q (.ptr (zD+1) 0 0) (.ptr zX 0 0) (A b) xv (J X (cA L0).length) (J X k) H) λr H'=>∃L' b',r= A b'/\eC zD L' H'/\fE m p L'/\iw L L'/\(b'=C->b=C\/ht L'<ht L)/\(b'=Z->b=Z/\L'=L)/\(∀set∈(cA L0).drop k,∀cr,cr<8->∀a∈eF p set cr,∀c∈eF p set cr,eJ L' a c)/\e8 (· =zD) H H'
 |_,_,0,_,_,_,_,hm,_,_,_,_,_=>aa
 |0,k,q+1,L,b,H,f,_,h,x,az,w,g=>by
  have o:¬(k:Int)<((cA L0).length:Int):=aa;simp-implicitDefEqProofs(disch:=try exact ai)only[tc,xr,qM,aj,aC,o,decide_false];exact aG.2 ⟨L,b,rfl,h,x,.refl h.g,λe=> .inl e,λe=>⟨e,rfl⟩,λset d=>by rw[List.drop_of_length_le aa]at d;simp at d,.refl _ _⟩
 |j+1,k,q+1,L,b,H,f,hm,h,x,az,w,g=>by
  have o:(k:Int)<((cA L0).length:Int):=aa;have t:k<(cA L0).length:=aa;have aE:(cA L0).length<=m:=by
   have:=qy (L:=L0) L0.length;rw[i.len]at this;simpa [cA,i.len]using this
  have aA:=l.hm;have on:=Ha l u v n M i (xv:=xv) E j (k+1) q;obtain⟨af,ah,an,t0,aM⟩:=Lt i (List.getElem_mem t);obtain⟨aH,aP,i1,i2,i3⟩:=w.list (j:=(k:Int)) (a:=aX (cA L0)[k]) aa (by simp[t]);rw[List.drop_eq_getElem_cons t];generalize (cA L0)[k]=set at*;have S:=af t0 (List.mem_of_getElem? aM);obtain⟨aI,T,U⟩:=i3.int (j:=0) (a:=((t0:Nat):Int)) aa (by simp[aX,aM]);obtain⟨fs,Q,ay,R⟩:=l.vk S (show 0<8 by omega);obtain⟨aN,ar,bR,b0,V⟩:=az.r_ (j:=(t0:Int)) (a:=fs.map aX) aa (by simp[Q]);have Y:∀H0,bL P H0 .len [31] [ar]=D (J X 8):=λH0=>by rw[V.len e4,List.length_map,R];rfl
  simp-implicitDefEqProofs(disch:=try exact ai)only[tc,xr,br,aj,aJ,aC,aL,o,decide_true,i1,i2,T,U,kB g,bR,b0,Y];refine GZ l u v n M af ah an 8 0 N L b H aa E h x az i3 g ?_;intro L1 O H1 f1 f2 f3 f4 f5 f6 f7;simp-implicitDefEqProofs(disch:=try exact ai)only[o_,aj,aC,cq (show k<=1000000000 by omega)];refine(on L1 O H1 aa aa f1 f2 (az.keep (.mut f7 λk f e=>u k f e)) (w.keep (.mut f7 λk f e=>v k f e)) (f7.get g n)).mono ?_;rintro r H' ⟨L',b',ab,ag,ak,B,al,am,ao,ap⟩;have cJ:=f3.vY;have aF:=B.vY;refine⟨L',b',ab,ag,ak,f3.trans B,λe=> ?_,λe=> ?_,λs d cr K a G c aq=> ?_,f7.trans ap⟩
  ·rcases al e with z|z
   ·rcases f4 z with y|y
    ·exact .inl y
    ·exact .inr aa
   ·exact .inr aa
  ·obtain⟨aw,ax⟩:=am e;obtain⟨au,av⟩:=f5 aw;exact⟨au,ax.trans av⟩
  ·rcases List.mem_cons.1 d with rfl|d
   ·exact B.le _ _ (f6 cr aa K a G c aq)
   ·exact ao s d cr K a G c aq
def RX(d:hz m p)(o:∀k,ok k->k≠zD){L:List Nat}{H:ad}(h:eC zD L H)(i:fE m p L)(n:nv.one=C)(az:aO (b1 (b1 aT)) H ok (p.fields.map (·.map aX)) fv):
  W (aQ P aK 188 [.ptr (zD+1) 0 0,.agg [nv,fv]] H) λr H'=>∃L' b,r= A b/\eC zD L' H'/\fE m p L'/\iw L L'/\(b=C->ht L'<ht L)/\(b=Z->L'=L/\lQ p L)/\e8 (· =zD) H H':=by
 refine X3 (m+9) ?_;have v:=av.push H (.row Z 2 [[nv,fv]]);have x:=ad.a_ H (.row Z 2 [[nv,fv]]);have S:=d.hm;have R:=i.len;have Q:=h.lt;simp-implicitDefEqProofs(disch:=try exact ai)only[Cq,aj,u3 _ n az.one];refine aZ (LB (h.aE v) aa) ?_;rintro xv H1 ⟨af,s1,f⟩;refine⟨f.1,?_⟩;have U:(cA L).length<=m:=by
  have:=qy (L:=L) L.length;simp only[cA,List.length_map];omega
 have z:∀H0,bL P H0 .len [31] [xv]=D (J X (cA L).length):=λH0=>by rw[s1.len e4,List.length_map]
 simp-implicitDefEqProofs(disch:=try exact ai)only[br,z];have q:=(v.mut (· =zD)).trans f;refine(Ha d o (okv:=λk=>(H.push (.row Z 2 [[nv,fv]])).next<=k) (λk c e=>by simp at c;omega) (zX:=H.next) aa n i aa (cA L).length 0 _ L Z H1 aa aa af i (az.keep (.mut q λk c e=>o k c e)) s1 (f.get x aa)).mono ?_;rintro r H' ⟨L',b',B,E,G,K,M,w,N,O⟩;refine⟨L',b',B,E,G,K,λe=>(M e).resolve_left bU,λe=>⟨(w e).2,⟨λs t k a b y j l=> ?_⟩⟩,q.trans O⟩;obtain⟨-,T,c⟩:=d.toMay.ez j;obtain⟨-,a1,-⟩:=d.toMay.ez l;rw[<-(w e).2];refine N (cY L.length λu=>aW L u=aW L s) (by rw[List.drop_zero];exact ZO h.g (show s<L.length by omega)) k c a (qa.2 ⟨s,fB.2 ⟨aa,rfl⟩,j⟩) b (qa.2 ⟨t,fB.2 ⟨aa,y.symm⟩,l⟩)
end
end
section
open Go.a2
set_option maxRecDepth 2000
section
variable {zD m:Nat}{p:dq}{ok:Nat->Prop}{nv fv:ae}{zX R:Nat}
def I0(c:hz m p)(w:∀k,ok k->k≠zD){x2:ae}{Q:ae->ad->Prop}{N:Nat}:
  ∀(j k q:Nat) (L:List Nat) (H:ad),k+j=p.nodes.length->j<q->eC zD L H->fE m p L->aO (b1 aT) H ok (p.nodes.map aX) nv->(∀l∈p.nodes.take k,∀a∈l,∀b∈l,eJ L a b)->
  (∀(L':List Nat) (H':ad),eC zD L' H'->fE m p L'->jA p L'->e8 (· =zD) H H'->W (w6 (aQ P aK) N (.ptr zX 0 0) x2 (.ptr (zD+1) 0 0) H') Q)->
  W (sT (aQ P aK) N q (.ptr zX 0 0) x2 (.ptr (zD+1) 0 0) nv (J X p.nodes.length) (J X k) H) Q
 |_,_,0,_,_,_,hm,_,_,_,_,_=>aa
 |0,k,q+1,L,H,s,_,h,r,az,i,fin=>by
  have t:¬(k:Int)<(p.nodes.length:Int):=aa;simp-implicitDefEqProofs(disch:=try exact ai)only[sT,w2,aj,aC,t,decide_false];rw[List.take_of_length_le aa]at i;exact fin L H h r ⟨i⟩ (.refl _ _)
 |j+1,k,q+1,L,H,s,hm,h,r,az,i,fin=>by
  have t:(k:Int)<(p.nodes.length:Int):=aa;have u:k<p.nodes.length:=aa;have R:=c.hm;have S:=c.nn;have z:=r.len;have on:=I0 c w (x2:=x2) (Q:=Q) (N:=N) j (k+1) q;have v:=List.getElem_mem u;obtain⟨U,V,i1,i2,i3⟩:=az.list (j:=(k:Int)) (a:=aX p.nodes[k]) aa (by simp[u]);rw[List.take_add_one,List.getElem?_eq_getElem u]at on;generalize p.nodes[k]=l at*;have n:∀x∈l,x<L.length:=λx aA=>by rw[z];exact c.nodes l v x aA
  simp-implicitDefEqProofs(disch:=try exact ai)only[sT,w2,aj,aC,t,decide_true,i1,i2];refine aZ (Mn w (by have:=c.nl l v;omega) h aa n i3) ?_;rintro _ B ⟨M,rfl,ah,y,T,O⟩;refine⟨y.1,?_⟩;have K:=r.Mk (λx aA=>by rw[<-z];exact n x aA) λa d b f=> .node v d f
  have E:=D_ h.g n;simp-implicitDefEqProofs(disch:=try exact ai)only[aj,aC,cq (show k<=1000000000 by omega)];refine on _ B aa aa ah K (az.keep (.mut y λk s e=>w k s e)) (λG o a d b f=> ?_) λL' H' f1 f2 f3 f4=>fin L' H' f1 f2 f3 (y.trans f4)
  simp only[Option.toList,List.mem_append,List.mem_singleton]at o;rcases o with o|rfl
  ·exact E.le _ _ (i G o a d b f)
  ·exact Ml h.g n a d b f
def IV(i:hz m p)(c:∀k,ok k->k≠zD)(d:zX≠zD)(f:nv.one=C){x2:ae}{Q:ae->ad->Prop}{N:Nat}:
  ∀(q:Nat) (L:List Nat) (H:ad),ht L<q->eC zD L H->fE m p L->jA p L->aO (b1 (b1 aT)) H ok (p.fields.map (·.map aX)) fv->H.get zX=D (.row Z 2 [[nv,fv]])->
  (∀(L':List Nat) (H':ad),eC zD L' H'->fE m p L'->jA p L'->lQ p L'->e8 (· =zD) H H'->W (w7 (aQ P aK) N (.ptr zX 0 0) x2 (.ptr (zD+1) 0 0) H') Q)->
  W (w_ (aQ P aK) N q (.ptr zX 0 0) x2 (.ptr (zD+1) 0 0) H) Q
 |0,_,_,hm,_,_,_,_,_,_=>aa
 |q+1,L,H,hm,h,r,aH,az,g,fin=>by
  simp-implicitDefEqProofs(disch:=try exact ai)only[w_,BV,aj,oV g];refine aZ (RX i c h r f az) ?_;rintro _ H1 ⟨L1,b,rfl,af,j,o,cJ,l,a⟩;refine⟨a.1,?_⟩;cases b with
  |true=>
   have:=cJ rfl;simp-implicitDefEqProofs(disch:=try exact ai)only[aj];exact IV i c d f (x2:=x2) (Q:=Q) (N:=N) q L1 H1 aa af j (aH.Ar o) (az.keep (.mut a λk n e=>c k n e)) (a.get g d) λL' H' f1 f2 f3 f4 f5=>fin L' H' f1 f2 f3 f4 (a.trans f5)
  |false=>
   obtain⟨rfl,aq⟩:=l rfl;simp-implicitDefEqProofs(disch:=try exact ai)only[aj];exact fin L1 H1 af j aH aq a
def bP(n:Nat)(a b c:ae):List ae:=[J X (n:Nat),a,b,c]
def hV{H:ad}{zC n:Nat}{a b c:ae}(g:H.get zC=D (.row Z 4 [bP n a b c])):aI P H 3 (.ptr zC 0 0)=D (J X (n:Nat))/\aI P H 30 (.ptr zC 0 1)=D a/\aI P H 30 (.ptr zC 0 2)=D b/\aI P H 31 (.ptr zC 0 3)=D c:=by
 refine⟨?_,?_,?_,?_⟩<;>(rw[e_ aF g rfl];rfl)
def l9{H:ad}{zC n:Nat}{a b c:ae}(g:H.get zC=D (.row Z 4 [bP n a b c])):aI P H 33 (.ptr zC 0 0)=D (.agg (bP n a b c)):=gY (n:=4) (i:=0) (c:=0) aF aF g rfl bU
def aaI{H:ad}{zC n:Nat}{a b c v:ae}(g:H.get zC=D (.row Z 4 [bP n a b c]))(e:v.one=C):cD P H 30 (.ptr zC 0 2) v=D (H.set zC (.row Z 4 [bP n a v c])):=by
 have d:=dx e;rw[gf (n:=1) aF g rfl (by rw[d];rfl) (by rw[d];simp[e]) bU,d];rfl
def aaJ{H:ad}{zC n:Nat}{a b c v:ae}(g:H.get zC=D (.row Z 4 [bP n a b c]))(e:v.one=C):cD P H 31 (.ptr zC 0 3) v=D (H.set zC (.row Z 4 [bP n a b v])):=by
 have d:=dx e;rw[gf (n:=1) aF g rfl (by rw[d];rfl) (by rw[d];simp[e]) bU,d];rfl
def mm{H:ad}{zC:Nat}{n:Nat}{a b c:ae}{r:List ae}(g:H.get zC=D (.row Z 4 [r]))(au:r.length=4)(d:a.one=C)(f:b.one=C)(aq:c.one=C):cD P H 33 (.ptr zC 0 0) (.agg (bP n a b c))=D (H.set zC (.row Z 4 [bP n a b c])):=by
 rw[gf (n:=4) aF g (e:=r) rfl (by simp[ae.cells,bP]) (by simp[ae.cells,bP,d,f,aq];rfl) bU]
 match r,au with
 |[_,_,_,_],_=>simp[ae.cells,bP,eZ]
def Jo{F zC i:Nat}{set:List Nat}{ok':Nat->Prop}(p:∀k,ok' k->k<F)(u:F<zC)(r:∀s∈set,s<m)(hm:m<=60)(x:set.length<=60){x1 x2 x7 x50 x51 x52 nn ff sv:ae}{cnt:Nat}{L10:ae->ae->ae->ae->ae->ae->ae->ad->O}{Q:ae->ad->Prop}{N:Nat}:
  ∀(j k q:Nat) (bx:List Nat) (H:ad),k+j=set.length->j<q->bx.length=m->H.get F=D (.row Z 1 (dR bx))->H.get zC=D (.row Z 4 [bP cnt (.aD F 0 m 1 (D m)) nn ff])->aO aT H ok' (aX set) sv->
  (∀(c:List Nat) (H':ad),c.length=m->(∀s,aW c s=if s∈set.drop k then i else aW bx s)->H'.get F=D (.row Z 1 (dR c))->(∀q,q≠F->H'.get q=H.get q)->H'.next=H.next->W (sP (aQ P aK) N L10 x1 x2 x7 (.ptr zC 0 0) x50 x51 x52 H') Q)->
  W (sS (aQ P aK) N L10 q x1 x2 x7 (.ptr zC 0 0) (J X i) x50 x51 x52 sv (J X set.length) (J X k) H) Q
 |_,_,0,_,_,_,aN,_,_,_,_,_=>aa
 |0,k,q+1,bx,H,v,_,h,f,cg,o,fin=>by
  have l:¬(k:Int)<(set.length:Int):=aa;simp-implicitDefEqProofs(disch:=try exact ai)only[sS,w1,aj,aC,l,decide_false];exact fin bx H h (λs=>by rw[List.drop_of_length_le aa,if_neg (by simp)]) f (λ_ _=>rfl) rfl
 |j+1,k,q+1,bx,H,v,aN,h,f,cg,o,fin=>by
  have l:(k:Int)<(set.length:Int):=aa;have n:k<set.length:=aa;have on:=Jo (i:=i) p u r hm x (x1:=x1) (x2:=x2) (x7:=x7) (x50:=x50) (x51:=x51) (x52:=x52) (nn:=nn) (ff:=ff) (sv:=sv) (cnt:=cnt) (L10:=L10) (Q:=Q) (N:=N) j (k+1) q;have w:=r _ (List.getElem_mem n);obtain⟨z,i1,i2⟩:=o.int (j:=(k:Int)) (a:=((set[k]:Nat):Int)) aa (by simp[aX,n]);rw[List.drop_eq_getElem_cons n]at fin;generalize set[k]=s at*;have st:=yL f (show s<bx.length by omega) i;have y:=ad.bE f;simp-implicitDefEqProofs(disch:=try exact ai)only[sS,w1,aj,aJ,aC,aL,l,decide_true,i1,i2,hV cg,fX b6 w,st,cq (show k<=1000000000 by omega)];refine on (bx.set s i) _ aa aa (by rw[List.length_set];exact h) (ad.c8 y) (by rw[ad.cb aa];exact cg) (o.keep λq b aN g=>⟨aN,by rw[ad.cb (by have:=p q aN;omega)];exact g⟩) λc H' f1 f2 f3 f4 f5=>fin c H' f1 (λt=> ?_) f3 (λq aN=>by rw[f4 q aN,ad.cb (Ne.symm aN)]) (by rw[f5];simp)
  rw[f2 t,r9 aa];by_cases d:t∈set.drop (k+1)
  ·rw[if_pos d,if_pos (by simp[d])]
  ·by_cases e:t=s
   ·rw[if_neg d,if_pos e,if_pos (by simp[e])]
   ·rw[if_neg d,if_neg e,if_neg (by simp[d,e])]
end
end
section
open Go.a2
set_option maxRecDepth 2000
section
variable {m:Nat}{p:dq}
def ZN{L:List Nat}{i:Nat}{set:List Nat}(h:(cA L)[i]? =D set):∃r,(eS L L.length)[i]? =D r/\set=cY L.length λs=>aW L s=r:=by
 simp only[cA,List.getElem?_map]at h;cases e:(eS L L.length)[i]? with
 |none=>rw[e]at h;cases h
 |some r=>rw[e]at h;cases h;exact⟨r,rfl,rfl⟩
def TG{L:List Nat}(g:a2.Good L){i r:Nat}(h:(eS L L.length)[i]? =D r):fN L r=i:=by
 have au:=o0.1 (List.mem_of_getElem? h);exact JS (wA g au.2 au.1) h
def Jp{F zC:Nat}{L:List Nat}{ok':Nat->Prop}(t:∀k,ok' k->k<F)(v:F<zC)(h:L.length=m)(hm:m<=60)(g:a2.Good L){x1 x2 nn ff sv:ae}{cnt:Nat}{Q:ae->ad->Prop}{N:Nat}(B:61<N):
  ∀(j k q:Nat) (bx:List Nat) (H:ad),k+j=(cA L).length->j<q->bx.length=m->(∀s,s<m->fN L (aW L s)<k->aW bx s=fN L (aW L s))->H.get F=D (.row Z 1 (dR bx))->H.get zC=D (.row Z 4 [bP cnt (.aD F 0 m 1 (D m)) nn ff])->aO (b1 aT) H ok' ((cA L).map aX) sv->
  (∀(d:List Nat) (H':ad),d.length=m->(∀s,s<m->aW d s=fN L (aW L s))->H'.get F=D (.row Z 1 (dR d))->(∀q,q≠F->H'.get q=H.get q)->H'.next=H.next->W (qI (aQ P aK) N x1 x2 sv (.ptr zC 0 0) H') Q)->
  W (sR (aQ P aK) N q x1 x2 sv (.ptr zC 0 0) sv (J X (cA L).length) (J X k) H) Q
 |_,_,0,_,_,_,aN,_,_,_,_,_,_=>aa
 |0,k,q+1,bx,H,G,_,n,o,l,cg,u,fin=>by
  have p:¬(k:Int)<((cA L).length:Int):=aa;simp-implicitDefEqProofs(disch:=try exact ai)only[sR,wZ,aj,aC,p,decide_false];refine fin bx H n (λs c=>o s c ?_) l (λ_ _=>rfl) rfl;have:=(List.getElem?_eq_some_iff.1 (wA (m:=L.length) g (g.id s) (by have:=g.le s;omega))).1;have e:(cA L).length=(eS L L.length).length:=by simp[cA]
  omega
 |j+1,k,q+1,bx,H,G,aN,n,o,l,cg,u,fin=>by
  have p:(k:Int)<((cA L).length:Int):=aa;have x:k<(cA L).length:=aa;have on:=Jp t v h hm g (x1:=x1) (x2:=x2) (nn:=nn) (ff:=ff) (sv:=sv) (cnt:=cnt) (Q:=Q) B j (k+1) q;obtain⟨T,w,i1,i2,i3⟩:=u.list (j:=(k:Int)) (a:=aX (cA L)[k]) aa (by simp[x]);obtain⟨r,au,e⟩:=ZN (List.getElem?_eq_getElem x);have E:=TG g au;have S:(cA L).length<=m:=by
   have:=qy (L:=L) L.length;simp only[cA,List.length_map];omega
  generalize (cA L)[k]=set at*;have R:set.length<=m:=by rw[e,h];exact j_ _ _
  have y:∀s∈set,s<m/\aW L s=r:=λs c=>by rw[e,h]at c;exact fB.1 c
  have lw:∀H0,bL P H0 .len [30] [w]=D (J X set.length):=λH0=>by rw[i3.len b6];simp[aX]
  simp-implicitDefEqProofs(disch:=try exact ai)only[sR,wZ,br,aj,aC,p,decide_true,i1,i2,lw];refine Jo (i:=k) (set:=set) t v (λs c=>(y s c).1) hm aa set.length 0 N bx H aa aa n l cg i3 ?_;intro et H1 f1 f2 f3 f4 f5;simp-implicitDefEqProofs(disch:=try exact ai)only[sP,aj,aC,cq (show k<=1000000000 by omega)];refine on et H1 aa aa f1 (λs c O=> ?_) f3 (by rw[f4 zC aa];exact cg) (u.keep λq b aN g=>⟨aN,by rw[f4 q (by have:=t q aN;omega)];exact g⟩) λd H' K M z3 z4 z5=>fin d H' K M z3 (λq aN=>(z4 q aN).trans (f4 q aN)) (z5.trans f5)
  rw[f2 s,List.drop_zero];by_cases f:s∈set
  ·rw[if_pos f,(y s f).2,E]
  ·rw[if_neg f];refine o s c ?_;have:fN L (aW L s)≠k:=λz=>f (by
    have af:=wA (m:=L.length) g (g.id s) (by have:=g.le s;omega);rw[z,au]at af;cases af;rw[e,h];exact fB.2 ⟨c,rfl⟩)
   omega
def I7{F zC:Nat}{bx:List Nat}{ok:Nat->Prop}(t:hz m p)(B:∀k,ok k->k<zC)(v:F<zC)(i:bx.length=m){x1 x2 x7 nv:ae}{cnt:Nat}{Q:ae->ad->Prop}{N:Nat}:
  ∀(j k q:Nat) (done:List Int) (dv:ae) (H:ad),k+j=p.nodes.length->j<q->done=(p.nodes.take k).map (gm bx)->bq aT (zC+1) bk H done dv->H.get F=D (.row Z 1 (dR bx))->H.get zC=D (.row Z 4 [bP cnt (.aD F 0 m 1 (D m)) dv .aB])->aO (b1 aT) H ok (p.nodes.map aX) nv->
  (∀(d:ae) (H':ad),bq aT (zC+1) bk H' (p.nodes.map (gm bx)) d->H'.get zC=D (.row Z 4 [bP cnt (.aD F 0 m 1 (D m)) d .aB])->(∀q,q<zC->H'.get q=H.get q)->H.next<=H'.next->W (w8 (aQ P aK) N x1 x2 x7 (.ptr zC 0 0) H') Q)->
  W (sW (aQ P aK) N q x1 x2 x7 (.ptr zC 0 0) nv (J X p.nodes.length) (J X k) H) Q
 |_,_,0,_,_,_,_,aN,_,_,_,_,_,_=>aa
 |0,k,q+1,done,dv,H,S,_,c,al,h,cg,s,fin=>by
  have n:¬(k:Int)<(p.nodes.length:Int):=aa;simp-implicitDefEqProofs(disch:=try exact ai)only[sW,w5,aj,aC,n,decide_false];rw[List.take_of_length_le aa]at c;subst c;exact fin dv H al cg (λ_ _=>rfl) (bC _)
 |j+1,k,q+1,done,dv,H,S,aN,c,al,h,cg,s,fin=>by
  have n:(k:Int)<(p.nodes.length:Int):=aa;have r:k<p.nodes.length:=aa;have ak:=t.nn;have on:=I7 t B v i (x1:=x1) (x2:=x2) (x7:=x7) (nv:=nv) (cnt:=cnt) (Q:=Q) (N:=N) j (k+1) q;obtain⟨G,w,i1,i2,i3⟩:=s.list (j:=(k:Int)) (a:=aX p.nodes[k]) aa (by simp[r]);have T:=List.getElem_mem r;have R:done++[gm bx p.nodes[k]]=(p.nodes.take (k+1)).map (gm bx):=by
   rw[List.take_add_one,List.getElem?_eq_getElem r,c,List.map_append];rfl
  have ah:done.length<=1000000:=by rw[c];simp;omega
  generalize p.nodes[k]=l at*;have U:aO aT H bk (aX bx) (.aD F 0 m 1 (D m)):= .inr (.inl ⟨F,0,D m,Z,_,by simp[aX,i,aT],trivial,h,by simp[aX,dR],λj x z=>⟨[J X x],by
   simp[aX]at z;obtain⟨y,V,rfl⟩:=z;simp[dR,V],rfl⟩⟩)
  have am:=ad.bE cg;simp-implicitDefEqProofs(disch:=try exact ai)only[sW,w5,aj,aJ,aC,aL,n,decide_true,i1,i2,hV cg];refine eu (FZ U i3 λa O=>by rw[i];exact t.nodes l T a O) ?_;obtain⟨u,H1,K,f,a3,a4,a5⟩:=al.l6 (a:=gm bx l) aa aa;have G:=av.push H (.row Z 1 [[J X (gm bx l)]]);have M:=(a3.2 zC aa).trans cg;have ag:(H.push (.row Z 1 [[J X (gm bx l)]])).next<=H1.next:=by rw[ad.dm];exact a4
  have rd:ae.beq dv dv=true:=al.aD.rd;have Y:bF (D dv) dv=true:=by simp[bF,rd]
  have st:=aaI M f.aD.one;simp-implicitDefEqProofs(disch:=try exact ai)only[aj,aJ,aC,aL,hV cg,hV (G.get cg),ej,K,st,Y,cq (show k<=1000000000 by omega)];have E:∀q,q≠zC->(H1.set zC (.row Z 4 [bP cnt (.aD F 0 m 1 (D m)) u .aB])).get q=H1.get q:=λq aN=>ad.cb (Ne.symm aN)
  have o:∀q,q<zC->(H1.set zC (.row Z 4 [bP cnt (.aD F 0 m 1 (D m)) u .aB])).get q=H.get q:=λq aN=>(E q aa).trans (a3.2 q aa)
  refine on _ u _ aa aa R (f.frame fP λL e=>E L (by have:=(f.iP e).1;omega)) ((o F v).trans h) (ad.c8 aa) (s.keep λq b aN g=>⟨aN,by rw[o q (B q aN)];exact g⟩) λd H' ab af z3 z4=>fin d H' ab af (λq aN=>(z3 q aN).trans (o q aN)) (by simp at z4;omega)
end
end
section
open Go.a2
set_option maxRecDepth 2000
section
variable {m:Nat}{p:dq}
def LL{H:ad}{bx:List Nat}{F:Nat}(d:bx.length=m)(b:H.get F=D (.row Z 1 (dR bx)))(ok:Nat->Prop)(c:ok F):aO aT H ok (aX bx) (.aD F 0 m 1 (D m)):= .inr (.inl ⟨F,0,D m,Z,_,by simp[aX,d,aT],c,b,by simp[aX,dR],λj x a=>⟨[J X x],by
 simp[aX]at a;obtain⟨y,e,rfl⟩:=a;simp[dR,e],rfl⟩⟩)
def GY{F zC B cnt zX:Nat}{bx set:List Nat}(f:hz m p)(z:F<B)(y:zC<B)(E:zX<B)(o:bx.length=m)(K:∀t∈set,t<m)(af:set.length<=m){nv fv sv nn ff x2 x87 x88 x89:ae}(G:nv.one=C){L5:ae->ae->ae->ae->ae->ae->ad->O}{Q:ae->ad->Prop}{N:Nat}:
  ∀(j k q:Nat) (l:List Int) (lv:ae) (H:ad),k+j=8->j<q->B<=H.next->l=(List.range k).map (λcr=>gm bx (eF p set cr))->bq aT B bk H l lv->aO (b1 (b1 aT)) H (· <B) (p.fields.map (·.map aX)) fv->aO aT H (· <B) (aX set) sv->H.get zX=D (.row Z 2 [[nv,fv]])->H.get F=D (.row Z 1 (dR bx))->H.get zC=D (.row Z 4 [bP cnt (.aD F 0 m 1 (D m)) nn ff])->
  (∀(g:ae) (H':ad),bq aT B bk H' ((List.range 8).map λcr=>gm bx (eF p set cr)) g->cT B H H'->W (w9 (aQ P aK) N L5 (.ptr zX 0 0) x2 (.ptr zC 0 0) g x87 x88 x89 H') Q)->
  W (sV (aQ P aK) N L5 q (.ptr zX 0 0) x2 (.ptr zC 0 0) sv lv x87 x88 x89 (J X 8) (J X k) H) Q
 |_,_,0,_,_,_,_,aN,_,_,_,_,_,_,_,_,_=>aa
 |0,k,q+1,l,lv,H,V,_,w,d,al,az,s,aS,h,cg,fin=>by
  have r:¬(k:Int)<8:=aa;simp-implicitDefEqProofs(disch:=try exact ai)only[sV,w4,aj,aC,r,decide_false];obtain rfl:k=8:=aa;subst d;exact fin lv H al (.refl _ _)
 |j+1,k,q+1,l,lv,H,V,aN,w,d,al,az,s,aS,h,cg,fin=>by
  have r:(k:Int)<8:=aa;have Y:k<8:=aa;have ar:=f.hm;have on:=GY f z y E o K af (nv:=nv) (fv:=fv) (sv:=sv) (nn:=nn) (ff:=ff) (x2:=x2) (x87:=x87) (x88:=x88) (x89:=x89) (cnt:=cnt) G (L5:=L5) (Q:=Q) (N:=N) j (k+1) q;have T:l++[gm bx (eF p set k)]=(List.range (k+1)).map (λcr=>gm bx (eF p set cr)):=by rw[d,List.range_succ,List.map_append];rfl
  have aq:l.length<=100:=by rw[d];simp;omega
  simp-implicitDefEqProofs(disch:=try exact ai)only[sV,w4,aj,aC,r,decide_true,oV aS];refine aZ (Hj f K aa Y G az s) ?_;rintro gv H1 ⟨ag,b⟩;refine⟨b.1,?_⟩;have U:∀x∈eF p set k,x<bx.length:=λx aA=>by
   obtain⟨t,_,ah⟩:=qa.1 aA;rw[o];exact(f.toMay.ez ah).1
  have v:=b.get cg;have R:=b.get h;simp-implicitDefEqProofs(disch:=try exact ai)only[aj,aJ,aL,hV v];refine eu (FZ (LL o R bk trivial) ag.aD U) ?_;generalize gm bx (eF p set k)=c at*;have ab:=al.aE b;have S:B<=H1.next:=by have:=b.1;omega
  obtain⟨am,u,L,M,a3,a4,a5⟩:=ab.l6 (a:=c) S aa;have pp:=av.push H1 (.row Z 1 [[J X c]]);have ap:(H1.push (.row Z 1 [[J X c]])).next<=u.next:=by rw[ad.dm];exact a4
  have ak:∀l i n e q,bF (D (.aD l i n e q)) (.aD l i n e q)=true:=λl i n e q=>by simp[bF,ae.beq]
  have pu:=(eH b w).trans a3;simp-implicitDefEqProofs(disch:=try exact ai)only[aj,aJ,aC,ej,L,hV cg,hV v,ak,cq (show k<=1000000000 by omega)];exact on _ am u aa aa (by have:=a3.1;omega) T M (az.gy pu) (s.gy pu) ((pu.2 zX E).trans aS) ((pu.2 F z).trans h) ((pu.2 zC y).trans cg) λg H' an ao=>fin g H' an (pu.trans ao)
def DU(l:Nat){v:ae}(a:v.one=C):gd P l 31 1 [(0,v)]=D (.aD l 0 1 1 (D 1),.row Z 1 [[v]]):=pr e4 l (dx a) rfl (by simp[a])
def G_{F zC E cnt zX:Nat}{bx L:List Nat}(i:hz m p)(ag:F<zC)(x:zC<E)(ak:zX<F)(z:bx.length=m)(u:fE m p L){nv fv sv nn x2:ae}(G:nv.one=C){Q:ae->ad->Prop}{N:Nat}(y:8<N):
  ∀(j k q:Nat) (done:List (List Int)) (dv:ae) (H:ad),k+j=(cA L).length->j<q->E<=H.next->done=((cA L).take k).map (λset=>(List.range 8).map λcr=>gm bx (eF p set cr))->bq (b1 aT) E (E<= ·) H done dv->aO (b1 (b1 aT)) H (· <F) (p.fields.map (·.map aX)) fv->aO (b1 aT) H (· <F) ((cA L).map aX) sv->H.get zX=D (.row Z 2 [[nv,fv]])->H.get F=D (.row Z 1 (dR bx))->H.get zC=D (.row Z 4 [bP cnt (.aD F 0 m 1 (D m)) nn dv])->
  (∀(f:ae) (H':ad),bq (b1 aT) E (E<= ·) H' ((cA L).map λset=>(List.range 8).map λcr=>gm bx (eF p set cr)) f->H'.get zC=D (.row Z 4 [bP cnt (.aD F 0 m 1 (D m)) nn f])->(∀q,q<E->q≠zC->H'.get q=H.get q)->H.next<=H'.next->W (o6 (aQ P aK) N x2 (.ptr zC 0 0) H') Q)->
  W (sU (aQ P aK) N q (.ptr zX 0 0) x2 (.ptr zC 0 0) sv (J X (cA L).length) (J X k) H) Q
 |_,_,0,_,_,_,_,aN,_,_,_,_,_,_,_,_,_=>aa
 |0,k,q+1,done,dv,H,ao,_,w,d,al,az,t,aS,o,cg,fin=>by
  have r:¬(k:Int)<((cA L).length:Int):=aa;simp-implicitDefEqProofs(disch:=try exact ai)only[sU,w3,aj,aC,r,decide_false];rw[List.take_of_length_le aa]at d;subst d;exact fin dv H al cg (λ_ _ _=>rfl) (bC _)
 |j+1,k,q+1,done,dv,H,ao,aN,w,d,al,az,t,aS,o,cg,fin=>by
  have r:(k:Int)<((cA L).length:Int):=aa;have s:k<(cA L).length:=aa;have aU:=i.hm;have aV:(cA L).length<=m:=by
   have:=qy (L:=L) L.length;have:=u.len;simp only[cA,List.length_map];omega
  have on:=G_ i ag x ak z u (nv:=nv) (fv:=fv) (sv:=sv) (nn:=nn) (x2:=x2) (cnt:=cnt) G (Q:=Q) y j (k+1) q;have am:done++[(List.range 8).map λcr=>gm bx (eF p (cA L)[k] cr)]=((cA L).take (k+1)).map (λset=>(List.range 8).map λcr=>gm bx (eF p set cr)):=by
   rw[List.take_add_one,List.getElem?_eq_getElem s,d,List.map_append];rfl
  have aR:done.length<=100:=by rw[d];simp;omega
  obtain⟨af,ah,an,t0,aM⟩:=Lt u (List.getElem_mem s);obtain⟨aY,a1,i1,i2,i3⟩:=t.list (j:=(k:Int)) (a:=aX (cA L)[k]) aa (by simp[s]);generalize (cA L)[k]=set at*;have ap:=af t0 (List.mem_of_getElem? aM);obtain⟨aZ,aq,ar⟩:=i3.int (j:=0) (a:=((t0:Nat):Int)) aa (by simp[aX,aM]);obtain⟨fs,U,aP,V⟩:=i.vk ap (show 0<8 by omega);obtain⟨a0,ay,bR,b0,au⟩:=az.r_ (j:=(t0:Int)) (a:=fs.map aX) aa (by simp[U]);have aw:∀H0,bL P H0 .len [31] [ay]=D (J X 8):=λH0=>by rw[au.len e4,List.length_map,V];rfl
  have ax:=ad.bE cg;simp-implicitDefEqProofs(disch:=try exact ai)only[sU,w3,br,aj,aJ,aC,aL,r,decide_true,i1,i2,aq,ar,kB aS,bR,b0,aw];refine GY i (B:=H.next) aa ax aa z af ah G 8 0 N [] .aB H aa y (bC _) rfl (bq.nil aT _ _ _) (az.keep (.le λq aN=>aa)) (i3.keep (.le λq aN=>aa)) aS o cg ?_;intro lv H1 R aH;have O:av H H1:=aH;have Y:=O.get cg;obtain⟨n,c,S,v,a3,a4,a5⟩:=bq.rF (K:=b1 aT) (ok:=(E<= ·)) (ok':=(E<= ·)) e4 al w O (a:=(List.range 8).map λcr=>gm bx (eF p set cr)) (cs:=[lv]) ⟨lv,rfl,R.q7 fP⟩ (λq aN=>by rcases aN with h|h<;>omega) aa;have aI:(H1.push (.row Z 1 [[lv]])).next<=c.next:=by rw[ad.dm];exact a4
  have ab:=(a3.2 zC x).trans cg;have st:=aaJ ab v.aD.one;have T:ee P (H1.push (.row Z 1 [[lv]])) [31,31] dv (.aD H1.next 0 1 1 (D 1))=D (n,c):=S;simp-implicitDefEqProofs(disch:=try exact ai)only[w9,sQ,aj,aJ,aC,aL,hV Y,DU _ R.aD.one,T,st,cq (show k<=1000000000 by omega)];have M:∀q,q≠zC->(c.set zC (.row Z 4 [bP cnt (.aD F 0 m 1 (D m)) nn n])).get q=c.get q:=λq aN=>ad.cb (Ne.symm aN)
  have e:∀q,q<E->q≠zC->(c.set zC (.row Z 4 [bP cnt (.aD F 0 m 1 (D m)) nn n])).get q=H.get q:=λq aN l=>(M q l).trans (a3.2 q aN)
  have aW:H.next<=c.next:=a3.1
  refine on _ n _ aa aa (by simp;omega) am (v.keep λq b aN g=>⟨aN,by rw[M q aa];exact g⟩) (az.keep λq b aN g=>⟨aN,by rw[e q aa aa];exact g⟩) (t.keep λq b aN g=>⟨aN,by rw[e q aa aa];exact g⟩) ((e zX aa aa).trans aS) ((e F aa aa).trans o) (ad.c8 aa) λf H' aA aE aF aG=>fin f H' aA aE (λq aN l=>(aF q aN l).trans (e q aN l)) (by simp at aG;omega)
end
end
section
open Go.a2
set_option maxRecDepth 2000
section
variable {m:Nat}{p:dq}{L bx:List Nat}
def vj(b:fE m p L)(aH:jA p L)(aq:lQ p L){s:Nat}(a:s<m):aW L s=dC (ds p) s:=by
 have e:=R1 b aH aq;rw[e];exact vO (by simp[a])
def GX(a:fE m p L)(aH:jA p L)(aq:lQ p L){r:Nat}(au:r<=m):eS L r=kc (ds p) r:=
 wj λs b=>by rw[vj a aH aq aa]
def RZ(a:fE m p L)(aH:jA p L)(aq:lQ p L){s:Nat}(b:s<m):fN L (aW L s)=gn (ds p) s:=by
 have h:=(jn (ds.cl p).eqv s).2.1;rw[vj a aH aq b];unfold fN gn;rw[GX a aH aq aa]
def R0(b:fE m p L)(aH:jA p L)(aq:lQ p L)(c:bx.length=m)(al:∀s,s<m->aW bx s=fN L (aW L s)):bx=(List.range m).map (gn (ds p)):=by
 apply List.ext_getElem?;intro i;by_cases a:i<m
 ·rw[ql aa,al i a,RZ b aH aq a];simp[a]
 ·rw[List.getElem?_eq_none aa,List.getElem?_eq_none (by simp;omega)]
def GW(b:bx=(List.range m).map (gn (ds p))){l:List Nat}(al:∀a∈l,a<m):gm bx l=rL (ds p) l:=by
 cases l with
 |nil=>rfl
 |cons a bs=>
  have:=al a (by simp);subst b;simp[gm,rL,List.getD_eq_getElem?_getD,this]
def RY(b:fE m p L)(aH:jA p L)(aq:lQ p L){r:Nat}(au:r<m)(a:aW L r=r)(k:Nat):eF p (cY L.length λs=>aW L s=r) k=qb p (ds p) m r k:=by
 unfold eF qb;have:(cY L.length λs=>aW L s=r)=cY m (ds p r):=by
  rw[b.len];refine wj λs c=> ?_
  rw[vj b aH aq c];rw[vj b aH aq au]at a;constructor
  ·intro e;exact(qk (ds.cl p).eqv).1 (a.trans e.symm)
  ·intro e;exact((qk (ds.cl p).eqv).2 e).symm.trans a
 rw[this]
def Vb(f:May m p)(b:fE m p L)(aH:jA p L)(aq:lQ p L)(i:bx.length=m)(al:∀s,s<m->aW bx s=fN L (aW L s)):merge p m=⟨(cA L).length,bx,p.nodes.map (gm bx),(cA L).map λset=>(List.range 8).map λcr=>gm bx (eF p set cr)⟩:=by
 have c:=R0 b aH aq i al;have d:eS L L.length=kc (ds p) m:=by rw[b.len];exact GX b aH aq (bC _)
 unfold merge nK
 congr 1
 ·simp[cA,d]
 ·exact c.symm
 ·exact List.map_congr_left λl j=>(GW c λa e=>f.nodes l j a e).symm
 ·rw[cA,d,List.map_map];refine List.map_congr_left λr au=> ?_
  have g:r<m/\aW L r=r:=by rw[<-d]at au;have:=o0.1 au;rw[b.len]at this;exact this
  show(List.range 8).map _=(List.range 8).map (λcr=>gm bx (eF p (cY L.length λs=>aW L s=r) cr));refine List.map_congr_left λk _=> ?_
  show _=gm bx (eF p _ k);rw[RY b aH aq g.1 g.2 k];exact(GW c λa e=>by
   obtain⟨t,_,_,h⟩:=U9.1 e;exact(f.ez h).1).symm
end
def pC(v:ae):Prop:=∀L i n e c,v= .aD L i n e (D c)->n<=c
def bq.cap{α:Type}{K:ek α}{B:Nat}{ok:Nat->Prop}{H:ad}{l:List α}{v:ae}(h:bq K B ok H l v):pC v:=by
 rcases h.e9 with⟨rfl,_⟩|⟨L,els,cap,rfl,_,_,_,aq,_⟩
 ·intro L i n e c a;cases a
 ·intro L' i n e c a;rcases aq with rfl|rfl
  ·cases a
  ·cases a;exact bC _
def oh(H:ad)(ok:Nat->Prop)(k:a2.cB)(v:ae):Prop:=∃ov nv fv,v= .agg (bP k.count ov nv fv)/\aO aT H ok (aX k.of) ov/\aO aT H ok k.nodes nv/\aO (b1 aT) H ok k.fields fv/\pC nv
def Vn{H:ad}{ok:Nat->Prop}{m:Nat}{p:dq}{nv fv:ae}(f:hz m p)(o:aO (b1 aT) H ok (p.nodes.map aX) nv)(S:aO (b1 (b1 aT)) H ok (p.fields.map (·.map aX)) fv):
  W (aQ P aK 132 [.agg [nv,fv]] H) λr H'=>∃an,r= .tuple [an,J X 0]/\oh H' (λL=>H.next<=L) (merge p m) an/\av H H':=by
 have hm:=f.hm;have bI:=f.nn;refine XA (p.nodes.length+m+100) ?_;obtain⟨zX,j⟩:∃zX,zX=H.next:=⟨_,rfl⟩
 have bu:=av.push H (.row Z 2 [[nv,fv]]);have a7:=ad.a_ H (.row Z 2 [[nv,fv]]);have a1:(H.push (.row Z 2 [[nv,fv]])).next=zX+1:=by rw[j];simp
 have aY:=av.push (H.push (.row Z 2 [[nv,fv]])) (.row Z 4 [bP 0 .aB .aB .aB]);have ap:=ad.a_ (H.push (.row Z 2 [[nv,fv]])) (.row Z 4 [bP 0 .aB .aB .aB]);have Y:=aY.get a7;have bz:∀(k:ae->ad->O),fu (H.push (.row Z 2 [[nv,fv]])) [J X 0,.aB,.aB,.aB] k=k (.ptr (zX+1) 0 0) ((H.push (.row Z 2 [[nv,fv]])).push (.row Z 4 [bP 0 .aB .aB .aB])):=λk=>by rw[mq,mr,a1];rfl
 rw[a1]at ap;rw[<-j]at Y;simp only[BU,u3 _ o.one S.one,nb,bz,<-j];generalize bh:(H.push (.row Z 2 [[nv,fv]])).push (.row Z 4 [bP 0 .aB .aB .aB])=a4 at*;have bM:a4.next=zX+2:=by rw[<-bh];simp[j]
 have V:=bu.trans aY;simp-implicitDefEqProofs(disch:=try exact ai)only[aj,oV Y];refine aZ (Vr f (o.aE V) (S.aE V)) ?_;rintro _ a5 ⟨rfl,B⟩;refine⟨B.1,?_⟩;have aq:=B.get Y;have aI:∀H0,bL P H0 .len [152] [fv]=D (J X (m:Nat)):=λH0=>by rw[S.len sb,List.length_map,f.len]
 have aP:∀H0,bL P H0 .len [31] [nv]=D (J X (p.nodes.length:Nat)):=λH0=>by rw[o.len e4,List.length_map]
 simp-implicitDefEqProofs(disch:=try exact ai)only[br,aj,aJ,aL,Bool.not_true,kB aq,aI];refine aZ (VF aa) ?_;rintro _ N ⟨rfl,f4,G⟩;refine⟨G.1,?_⟩;obtain⟨zD,bg⟩:∃zD,zD=a5.next:=⟨_,rfl⟩
 rw[<-bg]at f4 ⊢;have ab:=G.get aq;have ah:=(V.trans B).trans G;have bG:zX+2<=zD:=by have:=B.1;omega
 have aC:aO (b1 aT) N (· <zX) (p.nodes.map aX) nv:=j▸o.below.aE ah;have aA:aO (b1 (b1 aT)) N (· <zX) (p.fields.map (·.map aX)) fv:=j▸S.below.aE ah;simp-implicitDefEqProofs(disch:=try exact ai)only[br,aj,aJ,aL,kB ab,aP];refine I0 f (ok:=(· <zX)) (λk d=>aa) p.nodes.length 0 _ _ N aa aa f4 (fE.start m p) aC (λl al=>by simp at al) ?_;intro L5 am f5 aW bt ag;simp-implicitDefEqProofs(disch:=try exact ai)only[w6];have bk:aO (b1 (b1 aT)) am (· <zX) (p.fields.map (·.map aX)) fv:=aA.keep (.mut ag λk d e=>aa);refine IV f (ok:=(· <zX)) (λk d=>aa) (zX:=zX) aa o.one _ L5 am (by have:=VQ L5;have:=aW.len;omega) f5 aW bt bk (ag.get ab aa) ?_
 intro L bD f6 t ch cl bp;simp-implicitDefEqProofs(disch:=try exact ai)only[w7,aj];refine aZ (LB f6 (by have:=t.len;omega)) ?_;rintro xv c ⟨f7,a2,aV⟩;refine⟨aV.1,?_⟩;have x:=(ag.trans bp).trans aV;have ar:=x.get ab aa;have be:c.get (zX+1)=D (.row Z 4 [bP 0 .aB .aB .aB]):=x.get (G.get (B.get ap)) aa;have bK:(cA L).length<=m:=by
  have:=qy (L:=L) L.length;have:=t.len;simp only[cA,List.length_map];omega
 have aU:∀H0,bL P H0 .len [31] [xv]=D (J X (cA L).length):=λH0=>by rw[a2.len e4,List.length_map]
 obtain⟨F,Q⟩:∃F,F=c.next:=⟨_,rfl⟩
 have bv:=av.push c (.row Z 1 (dR (List.replicate m 0)));have K:(c.push (.row Z 1 (dR (List.replicate m 0)))).next=F+1:=by rw[Q];simp
 have a0:=av.push (c.push (.row Z 1 (dR (List.replicate m 0)))) (.row Z 4 [bP (cA L).length (.aD F 0 m 1 (D m)) .aB .aB]);have a6:dU P 33 [(0,J X (cA L).length),(1,.aD F 0 m 1 (D m))]=D (.agg (bP (cA L).length (.aD F 0 m 1 (D m)) .aB .aB)):=Fq rfl rfl;have bA:∀(k:ae->ad->O),fu (c.push (.row Z 1 (dR (List.replicate m 0)))) [J X 0,.aB,.aB,.aB] k=k (.ptr (F+1) 0 0) ((c.push (.row Z 1 (dR (List.replicate m 0)))).push (.row Z 4 [bP 0 .aB .aB .aB])):=λk=>by rw[mq,mr,K];rfl
 have bw:cD P ((c.push (.row Z 1 (dR (List.replicate m 0)))).push (.row Z 4 [bP 0 .aB .aB .aB])) 33 (.ptr (F+1) 0 0) (.agg (bP (cA L).length (.aD F 0 m 1 (D m)) .aB .aB))=D ((c.push (.row Z 1 (dR (List.replicate m 0)))).push (.row Z 4 [bP (cA L).length (.aD F 0 m 1 (D m)) .aB .aB])):=by
  have g:=ad.a_ (c.push (.row Z 1 (dR (List.replicate m 0)))) (.row Z 4 [bP 0 .aB .aB .aB]);rw[K]at g;rw[mm g rfl rfl rfl rfl,<-K,ad.kH]
 have ay:=a0.get (ad.a_ c (.row Z 1 (dR (List.replicate m 0))));have af:=ad.a_ (c.push (.row Z 1 (dR (List.replicate m 0)))) (.row Z 4 [bP (cA L).length (.aD F 0 m 1 (D m)) .aB .aB]);rw[K]at af;rw[<-Q]at ay;have v:=bv.trans a0;have mk:=IZ F m aa;simp only[aU,aI,br,na,aL,kB ar,<-Q,mk,nb,a6,bA,bw];rw[pA (by simp)];generalize bi:(c.push (.row Z 1 (dR (List.replicate m 0)))).push (.row Z 4 [bP (cA L).length (.aD F 0 m 1 (D m)) .aB .aB])=i at*;have n9:i.next=F+2:=by rw[<-bi,ad.dm,K]
 have bF:zD+1<F:=by have:=f7.lt;omega
 have a3:aO (b1 aT) i (· <F) ((cA L).map aX) xv:=Q▸a2.below.aE v;have bm:aO (b1 aT) i (· <F) (p.nodes.map aX) nv:=((aC.keep (.mut x λk d e=>aa)).aE v).keep (.le λk d=>aa);have bl:aO (b1 (b1 aT)) i (· <F) (p.fields.map (·.map aX)) fv:=((aA.keep (.mut x λk d e=>aa)).aE v).keep (.le λk d=>aa);have a9:=v.get ar;have bf:=v.get be;refine Jp (m:=m) (L:=L) (ok':=(· <F)) (λk d=>d) (show F<F+1 by omega) t.len hm t.ld aa (cA L).length 0 _ (List.replicate m 0) i aa aa (by simp) (λs bJ bH=>aa) ay af a3 ?_;intro bx ak R bj aw y n10;have ba:=(y (F+1) aa).trans af;have ao:=(y zX aa).trans a9;have aF:e1 i (· <F) ak (· <F):=λq b aN g=>⟨aN,by rw[y q aa];exact g⟩
 simp-implicitDefEqProofs(disch:=try exact ai)only[qI,br,aj,aJ,aL,kB ao,aP];refine I7 f (ok:=(· <F)) (λk d=>aa) (show F<F+1 by omega) R p.nodes.length 0 _ [] .aB ak aa aa rfl (bq.nil aT _ _ _) aw ba (bm.keep aF) ?_;intro u M aR au z n11;have aH:e1 i (· <F) M (· <F):=aF.trans λq b aN g=>⟨aN,by rw[z q aa];exact g⟩
 have ax:=(z F aa).trans aw;have a8:=(z zX aa).trans ao;simp-implicitDefEqProofs(disch:=try exact ai)only[w8,br,aU];have bn:=ad.bE au;refine G_ f (E:=M.next) (show F<F+1 by omega) bn aa R t o.one aa (cA L).length 0 _ [] .aB M aa aa (bC _) rfl (bq.nil (b1 aT) _ _ _) (bl.keep aH) (a3.keep aH) a8 ax au ?_;intro w h aM bb T n12;have az:h.get (zX+1)=D (.row Z 4 [bP 0 .aB .aB .aB]):=by rw[T _ aa aa,z _ aa,y _ aa];exact bf
 have aS:aO aT h (λk=>F+2<=k) (p.nodes.map (gm bx)) u:=(aR.q7 fP).keep λq b aN g=>⟨aN,by rw[T q (ad.bE g) aa];exact g⟩
 have bc:=(T F aa aa).trans ax;have bo:=ad.bE az;have st:=mm az rfl (n:=(cA L).length) (a:= .aD F 0 m 1 (D m)) rfl aS.one aM.aD.one;have bd:(h.set (zX+1) (.row Z 4 [bP (cA L).length (.aD F 0 m 1 (D m)) u w])).get (zX+1)=D (.row Z 4 [bP (cA L).length (.aD F 0 m 1 (D m)) u w]):=ad.c8 bo;have U:∀q,q≠zX+1->(h.set (zX+1) (.row Z 4 [bP (cA L).length (.aD F 0 m 1 (D m)) u w])).get q=h.get q:=λq aN=>ad.cb (Ne.symm aN)
 have n13:(h.set (zX+1) (.row Z 4 [bP (cA L).length (.aD F 0 m 1 (D m)) u w])).next=h.next:=by simp
 simp-implicitDefEqProofs(disch:=try exact ai)only[o6,aj,l9 bb,st,l9 bd];generalize h.set (zX+1) (.row Z 4 [bP (cA L).length (.aD F 0 m 1 (D m)) u w])=bB at*;rw[Vb f.toMay t ch cl R bj];have bs:∀q,q<zX->c.get q=N.get q:=λq aN=>x.2 q (by have:=G.1;omega) aa
 refine aG.2 ⟨_,rfl,⟨_,_,_,rfl,?_,?_,?_,aR.cap⟩,?_,?_⟩
 ·exact LL R ((U F aa).trans bc) _ aa
 ·exact aS.keep λq b (aN:F+2<=q) g=>⟨show zX<=q by omega,by rw[U q aa];exact g⟩
 ·exact aM.aD.keep λq b (aN:M.next<=q) g=>⟨show zX<=q by omega,by rw[U q aa];exact g⟩
 ·have:=V.1;omega
 ·intro q aN;rw[U q aa,T q aa aa,z q aa,y q aa,v.2 q aa,bs q aa,ah.2 q aN]
end
section
set_option maxRecDepth 100000
set_option maxHeartbeats 4000000
noncomputable section
def BK(G:aw):gM Tryz.f11 G:=⟨_,λN=>t1 ao⟩
def Xq(N:Nat):=dZ Tryz.func11 λG=>(BK G).2 N
def BZ(G:aw):gM Tryz.f14 G:=⟨_,λN=>t1 ao⟩
def XD(N:Nat):=dZ Tryz.func14 λG=>(BZ G).2 N
def Ct(G:aw)(N:Nat):et 4 Tryz.f18 G N (·.ag.ag.ag.ag.ag.ag) (bg Tryz.f18) []:=⟨_,v1 ao⟩
def xx(G:aw)(N:Nat)(L2:c6):gj 4 41 42 Tryz.f18 G N (·.ag.ag.ag.ag.ag.ax.ag.ax.ax) (bJ L2 4 41 42) [(4,(a8 (Ct G N) 4))]:=⟨_,v3 ao⟩
def tf(G:aw)(N:Nat):Nat->c6
 |0=>iq
 |n+1=>xx G N (tf G N n)
def qO(G:aw)(N:Nat):et 4 Tryz.f18 G N (·.ag.ag.ag.ag.ag) (bg Tryz.f18) []:=⟨_,v1 (ak ((Ct G N).2) (ak (bD (b3 (λm=>(xx G N (tf G N m)).2))) ao))⟩
def Cu(G:aw)(N:Nat)(L3:c6)(L4:dj):gk 3 4 5 19 20 Tryz.f18 G N (·.ag.ag.ag.ag.ax.ag.ax.ax.ag.ax.ag.ag.ax.ax.ag.ag.ag) (cn L4 3 4 5 19 20) [(2,(bJ L3 3 4 5)),(1,(bJ L3 3 4 5)),(0,(a8 (qO G N) 4))]:=⟨_,v5 ao⟩
def xA(G:aw)(N:Nat)(L3:c6)(L4:dj):gk 3 4 5 19 20 Tryz.f18 G N (·.ag.ag.ag.ag.ax.ag.ax.ax.ag.ax.ag.ag.ax.ax) (cn L4 3 4 5 19 20) [(2,(bJ L3 3 4 5)),(1,(bJ L3 3 4 5)),(0,(a8 (qO G N) 4))]:=⟨_,v5 (ak (ak (ak ((Cu G N L3 L4).2) ao) ao) ao)⟩
def th(G:aw)(N:Nat)(L3:c6):Nat->dj
 |0=>jc
 |n+1=>xA G N L3 (th G N L3 n)
def xz(G:aw)(N:Nat)(L3:c6):gj 3 4 5 Tryz.f18 G N (·.ag.ag.ag.ag.ax.ag.ax.ax) (bJ L3 3 4 5) [(0,(a8 (qO G N) 4))]:=⟨_,v3 (ak (bD (ak (ak (bD (b3 (λm=>(xA G N L3 (th G N L3 m)).2))) ao) ao)) ao)⟩
def tg(G:aw)(N:Nat):Nat->c6
 |0=>iq
 |n+1=>xz G N (tg G N n)
def Ce(G:aw)(N:Nat):fU Tryz.f18 G N:=⟨_,t1 (ak (ak (ak (ak (ak ((qO G N).2) (ak (bD (b3 (λm=>(xz G N (tg G N m)).2))) ao)) ao) ao) ao) ao)⟩
def XT(N:Nat):=dZ Tryz.func18 λG=>(Ce G N).2
def qP(G:aw)(N:Nat):et 4 Tryz.f20 G N (·.ag.ag.ag.ag.ag) (bg Tryz.f20) []:=⟨_,v1 ao⟩
def tj(G:aw)(N:Nat)(L1:dj):gk 3 4 15 16 17 Tryz.f20 G N (·.ag.ag.ag.ag.ax.ag.ax.ax.ag.ag.ag) (cn L1 3 4 15 16 17) [(0,(a8 (qP G N) 4))]:=⟨_,v5 ao⟩
def xF(G:aw)(N:Nat)(L1:dj):kX 3 4 5 7 15 16 17 Tryz.f20 G N (·.ag.ag.ag.ag.ax.ag.ax.ax.ag.ag.ax.ax.ag.ag.ag) (cn (tj G N L1) 3 4 15 16 17) [(1,(cn (tj G N L1) 3 4 15 16 17)),(0,(a8 (qP G N) 4))]:=⟨_,rN ao⟩
def xE(G:aw)(N:Nat)(L1:dj)(L4:hf):pJ 3 4 5 7 15 16 17 27 28 29 Tryz.f20 G N (·.ag.ag.ag.ag.ax.ag.ax.ax.ag.ag.ax.ax.ag.ag.ax.ag.ax.ax) (jX L4 3 4 5 7 15 16 17 27 28 29) [(2,(ea (xF G N L1) 3 4 5 7 15 16 17)),(1,(cn (tj G N L1) 3 4 15 16 17)),(0,(a8 (qP G N) 4))]:=⟨_,v10 ao⟩
def tm(G:aw)(N:Nat)(L1:dj):Nat->hf
 |0=>uD
 |n+1=>xE G N L1 (tm G N L1 n)
def xD(G:aw)(N:Nat)(L1:dj):gk 3 4 15 16 17 Tryz.f20 G N (·.ag.ag.ag.ag.ax.ag.ax.ax) (cn L1 3 4 15 16 17) [(0,(a8 (qP G N) 4))]:=⟨_,v5 (ak (ak (ak ((tj G N L1).2) (bD (ak (ak (ak ((xF G N L1).2) (ak (bD (b3 (λm=>(xE G N L1 (tm G N L1 m)).2))) ao)) ao) ao))) ao) ao)⟩
def tk(G:aw)(N:Nat):Nat->dj
 |0=>jc
 |n+1=>xD G N (tk G N n)
def Cx(G:aw)(N:Nat):fU Tryz.f20 G N:=⟨_,t1 (ak (ak (ak (ak (ak ((qP G N).2) (ak (bD (b3 (λm=>(xD G N (tk G N m)).2))) ao)) ao) ao) ao) ao)⟩
def X7(N:Nat):=dZ Tryz.func20 λG=>(Cx G N).2
def CB(G:aw):ev Tryz.f22 G:=⟨_,λN=>t2 ao⟩
def Ya(N:Nat):=dc Tryz.func22 λG=>(CB G).2 N
def C_(G:aw)(N:Nat)(L0:b_):en 1 2 3 4 Tryz.f36 G N (·.ag.ag.ag.ax.ax) (bT L0 1 2 3 4) [(0,(bg Tryz.f36))]:=⟨_,mJ ao⟩
def x9(G:aw)(N:Nat):Nat->b_
 |0=>fk
 |n+1=>C_ G N (x9 G N n)
def C9(G:aw)(N:Nat):fU Tryz.f36 G N:=⟨_,t1 (ak (ak (ak (bD (b3 (λm=>(C_ G N (x9 G N m)).2))) ao) ao) ao)⟩
def YN(N:Nat):=dZ Tryz.func36 λG=>(C9 G N).2
def Db(G:aw)(N:Nat):et 3 Tryz.f38 G N (·.ag.ag.ag.ag.ag.ag.ag) (bg Tryz.f38) []:=⟨_,v1 ao⟩
def x_(G:aw)(N:Nat)(L2:b_):en 1 3 43 44 Tryz.f38 G N (·.ag.ag.ag.ag.ag.ag.ax.ag.ax.ax) (bT L2 1 3 43 44) [(2,(a8 (Db G N) 3))]:=⟨_,mJ ao⟩
def tS(G:aw)(N:Nat):Nat->b_
 |0=>fk
 |n+1=>x_ G N (tS G N n)
def yb(G:aw)(N:Nat):gj 1 3 4 Tryz.f38 G N (·.ag.ag.ag.ag.ag) (bg Tryz.f38) []:=⟨_,v3 (ak (ak ((Db G N).2) (ak (bD (b3 (λm=>(x_ G N (tS G N m)).2))) ao)) ao)⟩
def ya(G:aw)(N:Nat)(L3:dj):gk 1 3 4 17 18 Tryz.f38 G N (·.ag.ag.ag.ag.ax.ag.ax.ax) (cn L3 1 3 4 17 18) [(0,(bJ (yb G N) 1 3 4))]:=⟨_,ny ao⟩
def tT(G:aw)(N:Nat):Nat->dj
 |0=>jc
 |n+1=>ya G N (tT G N n)
def Da(G:aw)(N:Nat):fU Tryz.f38 G N:=⟨_,nx (ak (ak (ak (ak (ak ((yb G N).2) (ak (bD (b3 (λm=>(ya G N (tT G N m)).2))) ao)) ao) ao) ao) ao)⟩
def YO(N:Nat):=dZ Tryz.func38 λG=>(Da G N).2
def qX(G:aw)(N:Nat):et 7 Tryz.f40 G N (·.ag.ag.ag) (bg Tryz.f40) []:=⟨_,v1 ao⟩
def pg(G:aw)(N:Nat)(L1:fI):kX 0 1 2 7 24 25 26 Tryz.f40 G N (·.ag.ag.ax.ag.ax.ax.ag.ag.ag) (ea L1 0 1 2 7 24 25 26) [(0,(a8 (qX G N) 7))]:=⟨_,kQ ao⟩
def ye(G:aw)(N:Nat)(L1:fI)(L3:hf):pJ 0 1 2 7 24 25 26 33 34 35 Tryz.f40 G N (·.ag.ag.ax.ag.ax.ax.ag.ag.ax.ax.ag.ag.ax.ax.ag.ag.ag) (jX L3 0 1 2 7 24 25 26 33 34 35) [(2,(ea (pg G N L1) 0 1 2 7 24 25 26)),(1,(ea (pg G N L1) 0 1 2 7 24 25 26)),(0,(a8 (qX G N) 7))]:=⟨_,v10 ao⟩
def yd(G:aw)(N:Nat)(L1:fI)(L3:hf):pJ 0 1 2 7 24 25 26 33 34 35 Tryz.f40 G N (·.ag.ag.ax.ag.ax.ax.ag.ag.ax.ax.ag.ag.ax.ax) (jX L3 0 1 2 7 24 25 26 33 34 35) [(2,(ea (pg G N L1) 0 1 2 7 24 25 26)),(1,(ea (pg G N L1) 0 1 2 7 24 25 26)),(0,(a8 (qX G N) 7))]:=⟨_,v10 (ak (ak (ak ((ye G N L1 L3).2) ao) ao) ao)⟩
def qZ(G:aw)(N:Nat)(L1:fI):Nat->hf
 |0=>uD
 |n+1=>yd G N L1 (qZ G N L1 n)
def yc(G:aw)(N:Nat)(L1:fI):kX 0 1 2 7 24 25 26 Tryz.f40 G N (·.ag.ag.ax.ag.ax.ax) (ea L1 0 1 2 7 24 25 26) [(0,(a8 (qX G N) 7))]:=⟨_,kQ (ak (ak (ak ((pg G N L1).2) (bD (ak (ak (bD (b3 (λm=>(yd G N L1 (qZ G N L1 m)).2))) ao) ao))) ao) ao)⟩
def qY(G:aw)(N:Nat):Nat->fI
 |0=>pB
 |n+1=>yc G N (qY G N n)
def Dc(G:aw)(N:Nat):oq Tryz.f40 G N:=⟨_,t3 (ak (ak (ak ((qX G N).2) (ak (bD (b3 (λm=>(yc G N (qY G N m)).2))) ao)) ao) ao)⟩
def YP(N:Nat):=g0 Tryz.func40 λG=>(Dc G N).2
def Df(G:aw):ev Tryz.f44 G:=⟨_,λN=>t2 ao⟩
def YT(N:Nat):=dc Tryz.func44 λG=>(Df G).2 N
def yf(G:aw):W0 Tryz.f45 G (·.ag.ag) (bg Tryz.f45) []:=⟨_,λN=>v0 ao⟩
def tV(G:aw):nk 0 3 6 7 Tryz.f45 G (·.ag.ax.ag.ax.ag) (bh (yf G)) [(0,(bh (yf G)))]:=⟨_,λN=>v4 ao⟩
def Dg(G:aw):ev Tryz.f45 G:=⟨_,λN=>t2 (ak (ak ((yf G).2 N) (ak (bD (ak ((tV G).2 N) ao)) ao)) ao)⟩
def YU(N:Nat):=dc Tryz.func45 λG=>(Dg G).2 N
def yh(G:aw)(N:Nat):et 5 Tryz.f46 G N (·.ag.ag.ag) (bg Tryz.f46) []:=⟨_,v1 ao⟩
def Di(G:aw)(N:Nat)(L1:dj):gk 1 5 8 9 10 Tryz.f46 G N (·.ag.ag.ax.ag.ax.ax.ag.ag.ag) (cn L1 1 5 8 9 10) [(0,(a8 (yh G N) 5))]:=⟨_,v5 ao⟩
def yg(G:aw)(N:Nat)(L1:dj):gk 1 5 8 9 10 Tryz.f46 G N (·.ag.ag.ax.ag.ax.ax) (cn L1 1 5 8 9 10) [(0,(a8 (yh G N) 5))]:=⟨_,v5 (ak (ak (ak ((Di G N L1).2) ao) ao) ao)⟩
def tW(G:aw)(N:Nat):Nat->dj
 |0=>jc
 |n+1=>yg G N (tW G N n)
def Dh(G:aw)(N:Nat):fJ Tryz.f46 G N:=⟨_,t2 (ak (ak (ak ((yh G N).2) (ak (bD (b3 (λm=>(yg G N (tW G N m)).2))) ao)) ao) ao)⟩
def YV(N:Nat):=dc Tryz.func46 λG=>(Dh G N).2
def Dj(G:aw):ev Tryz.f47 G:=⟨_,λN=>t2 ao⟩
def YW(N:Nat):=dc Tryz.func47 λG=>(Dj G).2 N
def Dz(G:aw):ev Tryz.f78 G:=⟨_,λN=>p6 ao (x:=trivial)⟩
def Zb(N:Nat):=dc Tryz.func78 λG=>(Dz G).2 N
def DI(G:aw)(N:Nat):et 3 Tryz.f80 G N (·.ag.ag.ag) (bg Tryz.f80) []:=⟨_,v1 ao⟩
def yA(G:aw)(N:Nat)(L1:dj):gk 1 3 7 8 9 Tryz.f80 G N (·.ag.ag.ax.ag.ax.ax) (cn L1 1 3 7 8 9) [(0,(a8 (DI G N) 3))]:=⟨_,v5 ao⟩
def ur(G:aw)(N:Nat):Nat->dj
 |0=>jc
 |n+1=>yA G N (ur G N n)
def DH(G:aw)(N:Nat):fU Tryz.f80 G N:=⟨_,t1 (ak (ak (ak ((DI G N).2) (ak (bD (b3 (λm=>(yA G N (ur G N m)).2))) ao)) ao) ao)⟩
def Zd(N:Nat):=dZ Tryz.func80 λG=>(DH G N).2
def yE(G:aw):W0 Tryz.f93 G (·.ag.ag) (bg Tryz.f93) []:=⟨_,λN=>v0 ao⟩
def uw(G:aw):pL 0 2 4 8 9 Tryz.f93 G (·.ag.ax.ag.ax.ag) (bh (yE G)) [(0,(bh (yE G)))]:=⟨_,λN=>v5 ao⟩
def DL(G:aw):iB Tryz.f93 G:=⟨_,λN=>t3 (ak (ak ((yE G).2 N) (ak (bD (ak ((uw G).2 N) ao)) ao)) ao)⟩
def Zi(N:Nat):=g0 Tryz.func93 λG=>(DL G).2 N
def BH(G:aw):ev Tryz.f100 G:=⟨_,λN=>t2 ao⟩
def Xg(N:Nat):=dc Tryz.func100 λG=>(BH G).2 N
end
end
section
open Go.a2
set_option maxRecDepth 2000
section
variable {H:ad}{ok ok':Nat->Prop}{x:bj}
def VO(au:eO x):0<ck x:=by have:=au.ay;unfold ck;omega
def VN(au:eO x):ck x<=70000:=by have:=au.ay;have:=au.globals;have:=l0 au;unfold ck;omega
def Iw{H:ad}{a b c d:ae}{m:Int}{zX:Nat}(g:H.get zX=D (.row Z 5 [[a,b,c,d,J X m]])):aI P H 25 (.ptr zX 0 3)=D d:=by rw[e_ aF g rfl];rfl
def IT(au:right x=C){V:ae}(aA:cM H ok x V){l:List bB}{lv:ae}(aU:gE (ck x) x.sites.length l)(al:l.length<=800000000)(aS:aO e0 H ok' l lv):W (aQ P aK 78 [V,lv] H) λr H'=>oh H' (λL=>H.next<=L) (a2.merge (gJ (ck x) x.sites.length l) x.sites.length) r/\av H H':=by
 have aV:=aA;have B:=gA au;have U:=B.sites;have aH:=VN B;obtain⟨_,rfl,a,b,cc,d,rfl,af,ah,an,aM⟩:=aA;refine Zb 0 ?_;have a0:=av.push H (.row Z 5 [[a,b,cc,d,J X x.main]]);have az:=ad.a_ H (.row Z 5 [[a,b,cc,d,J X x.main]]);have a4:bF (D (.agg [a,b,cc,d,J X x.main])) (.agg [a,b,cc,d,J X x.main])=true:=by simp[bF,ae.beq,er.beq,af.rd,ah.rd,an.rd,aM.rd]
 have ak:=av.push (H.push (.row Z 5 [[a,b,cc,d,J X x.main]])) (.row Z 4 [bP 0 .aB .aB .aB]);have Q:=ad.a_ (H.push (.row Z 5 [[a,b,cc,d,J X x.main]])) (.row Z 4 [bP 0 .aB .aB .aB]);have m:=ak.get az;obtain⟨zX,u⟩:∃zX,zX=H.next:=⟨_,rfl⟩
 have am:(H.push (.row Z 5 [[a,b,cc,d,J X x.main]])).next=zX+1:=by rw[u];simp
 have a9:∀(k:ae->ad->O),fu (H.push (.row Z 5 [[a,b,cc,d,J X x.main]])) [J X 0,.aB,.aB,.aB] k=k (.ptr (zX+1) 0 0) ((H.push (.row Z 5 [[a,b,cc,d,J X x.main]])).push (.row Z 4 [bP 0 .aB .aB .aB])):=λk=>by rw[mq,mr,am];rfl
 rw[am]at Q;rw[<-u]at m;simp only[Dz,dV af ah an aM,nb,a9,<-u];have G:=a0.trans ak;generalize aI:(H.push (.row Z 5 [[a,b,cc,d,J X x.main]])).push (.row Z 4 [bP 0 .aB .aB .aB])=ao at*;have be:ao.next=zX+2:=by rw[<-aI];simp[u]
 simp-implicitDefEqProofs(disch:=try exact ai)only[aj,cH m];refine aZ (P1 au (aV.aE G)) ?_;rintro _ ap ⟨rfl,s⟩;refine⟨s.1,?_⟩;have aC:=s.get m;have hlen:=aM.len fO (H0:=ap);have aR:∀H0,bL P H0 .len [25] [d]=D (J X (x.sites.length:Nat)):=λH0=>aM.len fO
 simp-implicitDefEqProofs(disch:=try exact ai)only[aj,aJ,aL,Iw aC,aR,K.heap,K.val];refine aZ (Wv aU aH (VO B) U al (aS.aE (G.trans s))) ?_;rintro _ j ⟨bf,rfl,⟨nv,fv,rfl,T,S⟩,ag⟩;refine⟨ag.1,?_⟩;have M:=s.trans ag;have a1:=ad.a_ j (.row Z 2 [[.aB,.aB]]);have N:=av.push j (.row Z 2 [[nv,fv]]);have a6:cD P (j.push (.row Z 2 [[.aB,.aB]])) 154 (.ptr j.next 0 0) (.agg [nv,fv])=D (j.push (.row Z 2 [[nv,fv]])):=by
  rw[DX a1 T.one S.one,ad.kH]
 simp-implicitDefEqProofs(disch:=try exact ai)only[Nat.reduceAdd,aj,aJ,a6];have aY:=av.push j (.row Z 2 [[.aB,.aB]]);have w:=M.trans N;have aX:=M.trans aY;have a5:bF (D d) d=true:=by simp[bF,aM.rd]
 refine cO (cP aF ?_) ?_
 ·refine cZ ?_ ?_
  ·simp only[ct,K.heap,List.forall_mem_cons]
   repeat' first|exact av.refl _|exact s|exact M|exact w|exact aX|(intro _ h;cases h;done)|refine ar ?_ ?_
  ·simp only[List.forall_mem_cons]
   repeat' first|(intro v o;cases o;done)|(intro v o;cases o;intro H' p;simp only[cH (p.get m),a4];done)|(intro v o;cases o;intro H' p;simp only[Iw (p.get m),a5];done)|(intro _ h;cases h;done)|refine ar ?_ ?_
 ·have aq:=ad.a_ j (.row Z 2 [[nv,fv]]);have ab:=(G.trans w);have n5:(j.push (.row Z 2 [[nv,fv]])).next=j.next+1:=by simp
  have ay:=w.get Q;have aT:=T.aE N;have aP:=S.aE N;generalize j.push (.row Z 2 [[nv,fv]])=z at*;simp-implicitDefEqProofs(disch:=try exact ai)only[aj,oV aq];refine aZ (Vn (U6 U aa) aT aP) ?_;rintro _ e ⟨bb,rfl,⟨ov,i,f,rfl,a8,bo,bJ,bT⟩,t⟩;refine⟨t.1,?_⟩;have a3:=ad.a_ e (.row Z 4 [bP 0 .aB .aB .aB]);generalize bc:a2.merge (gJ (ck x) x.sites.length l) x.sites.length=k at*;have n_:cD P (e.push (.row Z 4 [bP 0 .aB .aB .aB])) 33 (.ptr e.next 0 0) (.agg (bP k.count ov i f))=D (e.push (.row Z 4 [bP k.count ov i f])):=by
   rw[mm a3 rfl a8.one bo.one bJ.one,ad.kH]
  have y:=av.push e (.row Z 4 [bP k.count ov i f]);have aw:=ad.a_ e (.row Z 4 [bP k.count ov i f]);have ba:∀(q:ae->ad->O),fu e [J X 0,.aB,.aB,.aB] q=q (.ptr e.next 0 0) (e.push (.row Z 4 [bP 0 .aB .aB .aB])):=λq=>by rw[mq,mr];rfl
  have R:=(t.trans y).get ay;have a7:=mm (a:=ov) (b:=i) (c:=f) (n:=k.count) R rfl a8.one bo.one bJ.one;have aW:=ad.bE R;have ax:((e.push (.row Z 4 [bP k.count ov i f])).set (zX+1) (.row Z 4 [bP k.count ov i f])).get (zX+1)=D (.row Z 4 [bP k.count ov i f]):=ad.c8 aW;have Y:∀q,q≠zX+1->((e.push (.row Z 4 [bP k.count ov i f])).set (zX+1) (.row Z 4 [bP k.count ov i f])).get q=(e.push (.row Z 4 [bP k.count ov i f])).get q:=λq aN=>ad.cb (Ne.symm aN)
  simp only[ER,List.getElem?_cons_zero,List.getElem?_cons_succ,na,ba,n_];rw[pA (by simp)];simp only[l9 aw,na,a7];rw[pA (by simp)];simp only[l9 ax,na];have bd:zX+2<=z.next:=by have:=w.1;omega
  have E:e1 e (λL=>z.next<=L) ((e.push (.row Z 4 [bP k.count ov i f])).set (zX+1) (.row Z 4 [bP k.count ov i f])) (λL=>zX<=L):=λq b (aN:z.next<=q) g=>⟨show zX<=q by omega,by rw[Y q aa];exact y.get g⟩
  refine aG.2 ⟨⟨_,_,_,rfl,a8.keep E,bo.keep E,bJ.keep E,bT⟩,⟨by have:=ab.1;have:=t.1;have:=y.1;simp at*;omega,λq aN=> ?_⟩⟩;rw[Y q aa,y.2 q (by have:=t.1;omega),t.2 q aa,ab.2 q aN]
end
end
section
open Go.a2
set_option maxRecDepth 2000
def aae(l:Nat)(c:bB):gd P l 53 1 [(0,.agg (dk c))]=D (.aD l 0 1 4 (D 1),.row Z 4 [dk c]):=by
 cases c<;>exact pr ly l rfl rfl rfl
def Hv{a:Int}:∀{l:List Int} {i:Nat},l[i]? =D a->(∀j:Nat,j<i->l[j]? ≠D a)->l.idxOf a=i
 |[],i,h,_=>by simp at h
 |x::l,0,h,_=>by simp at h;subst h;simp
 |x::l,i+1,h,az=>by
  have aA:x≠a:=λe=>az 0 aa (by simp[e])
  rw[List.idxOf_cons,beq_eq_false_iff_ne.2 aA,jY,Hv (by simpa using h) λj b=>by have:=az (j+1) aa;simpa using this]
def TF{R:Nat->Nat->Prop}(he:gi R){m s:Nat}(c:s<m):nE (aX ((List.range m).map (gn R))) ((gn R s:Nat):Int)=((dC R s:Nat):Int):=by
 have al:=jn he s;have af:(aX ((List.range m).map (gn R)))[dC R s]? =D ((gn R s:Nat):Int):=by
  have:dC R s<m:=aa;have e:=(F4 he).2 (he.symm al.1);simp[aX,this,e]
 unfold nE;rw[if_pos (List.mem_of_getElem? af),Hv af λj b e=> ?_];have a:j<m:=aa;simp[aX,a]at e;have:=al.2.2 j ((F4 he).1 (by exact_mod_cast e.symm));omega
section
variable {H:ad}{ok ok':Nat->Prop}
def EV{R:Nat->Nat->Prop}(he:gi R){m zX cnt:Nat}{ov nv fv:ae}(hm:m<=1000000){B:Nat}(f:zX<B){N:Nat}:∀(j k q:Nat) (H:ad) (l:List bB) (v:ae),k+j=m->j<q->l=(List.range k).map (λs=>bB.same s (dC R s))->bq e0 B bk H l v->B<=H.next->H.get zX=D (.row Z 4 [bP cnt ov nv fv])->aO aT H (· <B) (aX ((List.range m).map (gn R))) ov->
  W (ur (aQ P aK) N q (.ptr zX 0 0) v ov (J X m) (J X k) H) λr H'=>bq e0 B bk H' (h7 R m) r/\cT B H H'
 |_,_,0,_,_,_,_,aN,_,_,_,_,_=>aa
 |0,k,q+1,H,l,v,y,_,b,al,d,g,aR=>by
  have c:¬(k:Int)<(m:Int):=aa;simp-implicitDefEqProofs(disch:=try exact ai)only[ur,yA,DI,aj,aC,c,decide_false];have e:k=m:=aa;subst e;exact aG.2 ⟨by rw[h7,<-b];exact al,.refl _ _⟩
 |j+1,k,q+1,H,l,v,y,aN,b,al,d,g,aR=>by
  have c:(k:Int)<(m:Int):=aa;have h:k<m:=aa;have on:=EV he (cnt:=cnt) (ov:=ov) (nv:=nv) (fv:=fv) hm f (N:=N) j (k+1) q;have hlen:(aX ((List.range m).map (gn R))).length=m:=by simp[aX]
  obtain⟨p,i1,i2⟩:=aR.int (j:=(k:Int)) (a:=((gn R k:Nat):Int)) aa (by simp[aX,h]);have w:dU P 56 [(0,J X 5),(1,J X (k:Nat)),(2,J X (dC R k:Nat))]=D (.agg (dk (.same k (dC R k)))):=Fs rfl rfl rfl;simp-implicitDefEqProofs(disch:=try exact ai)only[ur,yA,aj,aJ,aC,aL,c,decide_true,i1,i2,hV g];have i:=Hy (a:=((gn R k:Nat):Int)) aR (by rw[hlen];omega);rw[TF he h]at i;refine eu i ?_;obtain⟨n,H1,o,u,a3,a4,a5⟩:=bq.rF (K:=e0) (ok:=bk) (ok':=bk) ly al d (av.refl H) (a:=bB.same k (dC R k)) (cs:=dk (.same k (dC R k))) rfl (λ_ _=>trivial) (by rw[b];simp;omega);have E:(H.push (.row Z 4 [dk (.same k (dC R k))])).next<=H1.next:=by rw[ad.dm];exact a4
  have t:ee P (H.push (.row Z 4 [dk (.same k (dC R k))])) [53,53] v (.aD H.next 0 1 4 (D 1))=D (n,H1):=o;have x:l++[bB.same k (dC R k)]=(List.range (k+1)).map (λs=>bB.same s (dC R s)):=by rw[b,List.range_succ,List.map_append];rfl
  simp-implicitDefEqProofs(disch:=try exact ai)only[aj,aC,w,aae,t,cq (show k<=1000000000 by omega)];exact(on H1 _ n aa aa x u (by have:=a3.1;omega) ((a3.2 zX f).trans g) (aR.gy a3)).mono λr H' z=>⟨z.1,a3.trans z.2⟩
def OX(l n:Nat){a b c:ae}(d:a.one=C)(e:b.one=C)(aq:c.one=C):fe l (.agg (bP n a b c))=D (.ptr l 0 0,.row Z 4 [bP n a b c]):=by simp[fe,ae.cells,bP,d,e,aq];rfl
def NH{R:Nat->Nat->Prop}(he:gi R){m:Nat}{k:a2.cB}{v:ae}(hm:m<=1000000)(d:k.of=(List.range m).map (gn R))(f:oh H ok k v):W (aQ P aK 80 [v] H) λr H'=>bq e0 H.next bk H' (h7 R m) r/\av H H':=by
 obtain⟨ov,nv,fv,rfl,a8,bo,bJ,_⟩:=f;rw[d]at a8;refine Zd (m+1) ?_;have b:=av.push H (.row Z 4 [bP k.count ov nv fv]);have a:=ad.a_ H (.row Z 4 [bP k.count ov nv fv]);have hlen:∀H0,bL P H0 .len [30] [ov]=D (J X m):=λH0=>by rw[a8.len b6];simp[aX]
 simp-implicitDefEqProofs(disch:=try exact ai)only[DH,br,aj,aJ,aL,OX _ _ a8.one bo.one bJ.one,hV a,hlen];refine(EV he hm (B:=H.next+1) aa m 0 _ _ [] .aB aa aa rfl (bq.nil e0 _ _ _) (by simp) a ((a8.below.aE b).keep (.le λL g=>aa))).mono λr H' z=>⟨⟨z.1.e9,λL n c e=>by have:=z.1.low L n c e;omega⟩,⟨by have:=z.2.1;simp at this;omega,λq aN=>(z.2.2 q aa).trans (b.2 q aN)⟩⟩
end
end
section
open Go.a2
set_option maxRecDepth 2000
def IL:eW 198 53 1:=⟨aF,aF,⟨24,aF,bU⟩,⟨.aB,aF,rfl,rfl⟩,bU⟩
def M8{H:ad}{ok ok':Nat->Prop}(a:bB)(cs:List ae)(h:e0.V H ok a cs):e0.V H ok' a cs:=h
section
variable {H:ad}{ok ok':Nat->Prop}
def SO{n:Nat}(aH:n<=1000000000):W (aQ P aK 133 [.aB,.int .i64 n] H) λr H'=>bq e0 H.next bk H' [] r/\av H H':=by
 refine XB 0 ?_;have g:¬(n:Int)<0:=aa;have bh:∀H0,bL P H0 .cap [53] [.aB]=D (.int .i64 0):=λH0=>aF
 have f:∀H0,bL P H0 .len [53] [.aB]=D (.int .i64 0):=λH0=>aF
 have w0:IntKind.i64.wrap ((0:Int)-0)=0:=bU;have p:IntKind.i64.wrap ((n:Int)-0)=(n:Int):=by rw[wrap_i64 aa aa];omega
 by_cases j:n=0
 ·subst j;have d:¬(0:Int)>0:=bU;have s:IntKind.i64.wrap (((0:Nat):Int)-0)=0:=bU;simp-implicitDefEqProofs(disch:=try exact ai)only[xa,BW,BX,br,aj,aC,decide_false,bh,f,w0,Int.lt_irrefl,Int.ofNat_zero];exact aG.2 ⟨bq.nil e0 _ _ _,.refl _⟩
 ·have d:(0:Int)<(n:Int):=aa;have l:hD P 53 .aB I (D (.int .i64 0)) I=D .aB:=aF;have pp:=av.push H (.row Z 4 (List.replicate n [.int .i64 0,.int .i64 0,.int .i64 0,.int .i64 0]));have h:=ad.a_ H (.row Z 4 (List.replicate n [.int .i64 0,.int .i64 0,.int .i64 0,.int .i64 0]));have ap:ee P H [53,3] .aB (.int .i64 (n:Nat))=D (.aD H.next 0 n 4 I,H.push (.row Z 4 (List.replicate n [.int .i64 0,.int .i64 0,.int .i64 0,.int .i64 0]))):=by
   have u:P.underlying 53=D (.slice 56):=aF;have i64:mM P 3=true:=aF;have b:cp P 56=D 4:=aF;have q:kO P 56=D 32:=aF;have z3:e2 P 56=D (.agg [.int .i64 0,.int .i64 0,.int .i64 0,.int .i64 0]):=aF;have aq:0<n/\(ae.agg [.int .i64 0,.int .i64 0,.int .i64 0,.int .i64 0]).cells.length=4/\0<4/\(ae.agg [.int .i64 0,.int .i64 0,.int .i64 0,.int .i64 0]).cells.all ae.one=C/\n*32<=140737488355328/\n<=1125899906842624:=⟨aa,rfl,bU,rfl,aa,aa⟩;simp only[ee,u,i64,if_true,uQ,b,q,z3];show(if _ then _ else _)=_;rw[if_pos aq];rfl
  have o:hD P 53 (.aD H.next 0 n 4 I) I (D (.int .i64 0)) I=D (.aD H.next 0 0 4 I):=by
   have u:P.underlying 53=D (.slice 56):=aF;have b:cp P 56=D 4:=aF;simp[hD,u,b,eg]
  simp-implicitDefEqProofs(disch:=try exact ai)only[xa,BW,BX,br,aj,aC,g,decide_false,bh,f,w0,p,d,decide_true,l,o,ap];refine aG.2 ⟨⟨.inr ⟨H.next,_,I,rfl,trivial,h,by simp,.inl rfl,λi a k=>by simp at k⟩,λL m c e=>by cases e;exact bC _⟩,pp⟩
def bq.F6{B:Nat}{H1:ad}{l m:List bB}{v w:ae}(h:bq e0 B bk H1 l v)(d:B<=H1.next)(hm:aO e0 H1 ok m w)(al:l.length+m.length<=1000000000):
  ∃a H',ee P H1 [53,53] v w=D (a,H')/\bq e0 B bk H' (l++m) a/\cT B H1 H':=by
 obtain⟨a,H',b,c,a3,_,_⟩:=h.app ly d ((hm.z7 ly).plain (okE':=λ_=>False) M8) (λ_ _ h=>h.elim) (λ_ _ _ _=>trivial) (ok':=bk) trivial al;exact⟨a,H',b,c,a3⟩
def aO.vP{l:List (List bB)}{v:ae}(h:aO (b1 e0) H ok l v){j:Int}{a:List bB}(b:0<=j)(c:l[j.toNat]? =D a):∃p w,cm P 198 v (J X j)=D p/\aI P H 53 p=D w/\aO e0 H ok a w:=by
 obtain⟨p,cs,d,e,w,rfl,f⟩:=aO.val (K:=b1 e0) IL aF h b c;exact⟨p,w,d,e,f⟩
def PZ{b c:List bB}{v:ae}(h:aO (b1 e0) H ok [b,c] v)(Q:b.length+c.length<=1000000000):W (aQ P aK 79 [v] H) λr H'=>bq e0 H.next bk H' (b++c) r/\av H H':=by
 refine Zc 3 ?_;have lv:∀H0,bL P H0 .len [198] [v]=D (J X 2):=λH0=>by rw[h.len IL];rfl
 obtain⟨T,M,i1,i2,i3⟩:=h.vP (j:=0) (a:=b) aa rfl;obtain⟨V,N,y,B,G⟩:=h.vP (j:=1) (a:=c) aa rfl;have cJ:∀H0,bL P H0 .len [53] [M]=D (J X b.length):=λH0=>i3.len ly
 have L:∀H0,bL P H0 .len [53] [N]=D (J X c.length):=λH0=>G.len ly
 have m:IntKind.i64.wrap ((0:Int)+(b.length:Int))=((b.length:Nat):Int):=by rw[wrap_i64 aa aa];omega
 have n:IntKind.i64.wrap ((b.length:Int)+(c.length:Int))=((b.length+c.length:Nat):Int):=by rw[wrap_i64 aa aa];omega
 have o:¬((b.length:Nat):Int)<0:=aa;have p:¬((b.length+c.length:Nat):Int)<0:=aa;have a8:IntKind.i64.wrap ((0:Int)+1)=1:=bU;have bo:IntKind.i64.wrap ((1:Int)+1)=2:=bU;have d0:(0:Int)<2:=bU;have d1:(1:Int)<2:=bU;have d2:¬(2:Int)<2:=bU;simp-implicitDefEqProofs(disch:=try exact ai)only[DA,DG,DC,yy,uq,br,aj,aC,lv,i1,i2,y,B,cJ,L,m,n,o,p,a8,bo,d0,d1,d2,decide_true,decide_false];refine aZ (SO aa) ?_;rintro g H1 ⟨q,d⟩;refine⟨d.1,?_⟩;have s:H.next<=H1.next:=d.1
 have af:=h.below.aE d;obtain⟨U,ab,u,w,x⟩:=af.vP (j:=0) (a:=b) aa rfl;obtain⟨v2,f,x1,x2,e⟩:=q.F6 s x (by simp;omega);have ah:=af.gy e;obtain⟨Y,ad,z,E,K⟩:=ah.vP (j:=1) (a:=c) aa rfl;have t:H.next<=f.next:=by have:=e.1;omega
 obtain⟨v3,l,O,i,k⟩:=x2.F6 t K (by simp;omega);have R:H1.next<=f.next:=e.1
 have S:f.next<=l.next:=k.1
 simp-implicitDefEqProofs(disch:=try exact ai)only[DF,DB,DD,br,aj,aC,lv,u,w,z,E,x1,O,a8,bo,d0,d1,d2,decide_true,decide_false];rw[List.nil_append]at i;exact aG.2 ⟨i,((eH d (bC _)).trans e).trans k⟩
