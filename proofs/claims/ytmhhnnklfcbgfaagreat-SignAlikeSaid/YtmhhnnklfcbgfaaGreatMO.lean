/-
  Texts of one proof, laid together: Pd ShG SgL Mc ShE SgI.
-/
import Derived.Test.YtmhhnnklfcbgfaaGreatMN
set_option linter.unusedVariables false
set_option linter.unusedSimpArgs false
set_option linter.defProp false
open Option renaming some→D,none→I
open Bool renaming true→C,false→Z
open Go.bo.aa renaming int→J,bool→y
open Go.IntKind renaming i64→X
namespace Go.Proofs.YtmhhnnklfcbgfaaGreat
open Go.bo
section
open Go.bp
section
variable {H:ad}{ok:Nat->Prop}{x:bQ}{f:Nat}{c:b3}{i:In}{gv gw cn cc rv wi:aa}{M:Nat}{l:List bz}
def bG.r3{α:Type}{K:ej α}{H:ad}{l:List α}{v:aa}{M:Nat}(h:bG K (M+1) bH H l v)(e:∀{H H':ad} {ok:Nat->Prop} {a cs},K.V H ok a cs->K.V H' ok a cs)(b:bL):bG K (M+1) bH (H.set M b) l v:=by
 refine⟨?_,h.low⟩;rcases h.eG with ae|⟨L',els,cap,c,f,g,j,k,m⟩
 ·exact .inl ae
 ·have:=h.low _ _ _ c;exact .inr ⟨L',els,cap,c,f,by rw[ad.cW ai];exact g,j,k,λi a d=>by obtain⟨cs,n,o⟩:=m i a d;exact⟨cs,n,e o⟩⟩
def aZ.r3{α:Type}{K:ej α}{H:ad}{l:List α}{v:aa}{M:Nat}(h:aZ K H (· <M) l v)(b:bL):aZ K (H.set M b) (· <M) l v:=h.keep λk b a g=>⟨a,by rw[ad.cW ai];exact g⟩
def zG(m:dw x f c i=C)(l:dL x):(cK x f c i).length<=7:=by
 have j:∀(at_ to:Nat) (d:List Int) (k:Nat),(fW c at_ to d k).length<=d.length:=by
  intro at_ to d
  induction d with
  |nil=>intro k;simp[fW]
  |cons v d n=>intro k;have:=n (k+1);rw[fW];cases c8 c v<;>simp<;>omega
 have one:∀(b:Bool) (z:bz),(bif b then[z]else[]).length<=7:=λb z=>by cases b<;>simp
 unfold cK;simp only
 split
 case h_8 h=>
  obtain⟨g,e⟩:=pf h m;have ae:=j (bE x.o f) (bE x.o i.c.toNat) i.args 0;have ah:=e.len;have ak:=(iV (l.code e.at_.2)).params;rw[List.length_append];have au:(bif decide (0<=i.a)&&c8 c i.a then[bz.copy (bE x.o f+i.a.toNat) (fS x i.c.toNat)]else[]).length<=1:=by cases(decide (0<=i.a)&&c8 c i.a)<;>simp
  omega
 all_goals first|exact one _ _|simp
def Qm(m:eZ x f c gv gw cn cc M l H rv){k:Nat}{g:b3}{v w:aa}(b8:aZ ei H (· <M) g.vars v)(cg:aZ e7 H (· <M) g.ins w):
  bA P (H.push (.row Z 7 [ct g v w])) 3 (.ptr M 0 8) (J X k)=D ((H.push (.row Z 7 [ct g v w])).set M (.row Z 12 [gJ x k c gv gw cn cc rv]))/\
  bA P ((H.push (.row Z 7 [ct g v w])).set M (.row Z 12 [gJ x k c gv gw cn cc rv])) 49 (.ptr M 0 0) (.agg (ct g v w))=D ((H.push (.row Z 7 [ct g v w])).set M (.row Z 12 [gJ x k g v w cn cc rv]))/\
  eZ x k g v w cn cc M l ((H.push (.row Z 7 [ct g v w])).set M (.row Z 12 [gJ x k g v w cn cc rv])) rv:=by
 have e:=m.lt;have pp:=ay.push H (.row Z 7 [ct g v w]);have a:=pp.get m.g;have b:=ad.b6 a;have d:((H.push (.row Z 7 [ct g v w])).set M (.row Z 12 [gJ x k c gv gw cn cc rv])).get M=D (.row Z 12 [gJ x k c gv gw cn cc rv]):=ad.dA b;have ae:=b8.one;have ah:=cg.one;refine⟨?_,?_,?_⟩
 ·rw[fN (n:=1) ag a rfl rfl rfl b_];rfl
 ·rw[fN (n:=7) ag d rfl rfl (by simp[ct,aa.cells,ae,ah];simp[aa.one]) b_,ad.set_set];rfl
 ·exact⟨ad.dA b,(m.r.aI pp).r3 (λh=>h) _,(b8.aI pp).r3 _,(cg.aI pp).r3 _,(m.aS.aI pp).r3 _,(m.aA.aI pp).r3 _⟩
def Fc(b:dL x)(aN:x.o[f]? =D c){R q:Nat}{L1:aa->aa->aa->aa->ad->O}{Q:aa->ad->Prop}{N:Nat}:∀(j k n:Nat) (H:ad) (l:List bz) (rv:aa),k+j=c.ins.length->j<n->c.ins.length<=1000000->l.length+7*j+R<=1000000->eZ x f c gv gw cn cc M l H rv->
  (∀H' g a,dt M H H'->a=l++(c.ins.drop k).flatMap (cK x f c)->a.length+R<=1000000->eZ x f c gv gw cn cc M a H' g->W (nB (aC P ax) N L1 (.ptr M 0 0) cc (J X x.o.length) (J X q) H') Q)->
  W (nD (aC P ax) N L1 n (.ptr M 0 0) cc (J X x.o.length) (J X q) gw (J X c.ins.length) (J X k) H) Q
 |_,_,0,_,_,_,_,hm,_,_,_,_=>ai
 |0,k,n+1,H,l,rv,s,_,_,az,m,fin=>by
  have d:¬(k:Int)<(c.ins.length:Int):=ai;have:=fin H rv l (.refl _ _) (by rw[List.drop_of_length_le ai];simp) ai m;simp-implicitDefEqProofs(disch:=try exact al)only[nD,u_,aq,aG,d,decide_false];exact this
 |j+1,k,n+1,H,l,rv,s,B,z,az,m,fin=>by
  have d:(k:Int)<(c.ins.length:Int):=ai;have e:k<c.ins.length:=ai;have E:=m.lt;obtain⟨L,nn,wi,t,u,r⟩:=m.cg.wg (j:=(k:Int)) (i:=c.ins[k]) ai (by simp[e]);have h:dw x f c c.ins[k]=true:=(iV (b.code aN)).ins (List.getElem_mem e);have on:=Fc b aN (R:=R) (q:=q) (L1:=L1) (Q:=Q) (N:=N) j (k+1) n;rw[List.drop_eq_getElem_cons e,List.flatMap_cons]at fin;generalize c.ins[k]=i at*;have A:=zG h b;have st:=r4 (i:=i) (w:=wi) (ad.bq H (.row Z 6 [[J X 0,J X 0,J X 0,J X 0,J X 0,.aB]])) r.one;have pp:=ay.push H (.row Z 6 [cf i wi]);have aQ:=ad.bq H (.row Z 6 [cf i wi]);simp-implicitDefEqProofs(disch:=try exact al)only[nD,u_,Nat.reduceAdd,aq,aO,aG,d,decide_true,t,u _ (ay.refl _),st,ad.fE,e3 aQ]
  refine bk (Qd b (m.aI pp) aN (r.aI pp) h ai) ?_;rintro _ K ⟨rfl,p,g,eU⟩;refine⟨p.1,?_⟩;have pu:dt M H K:=(er pp ai).trans p;simp-implicitDefEqProofs(disch:=try exact al)only[aq,aG,c3 (show k<=1000000000 by omega)];refine on K _ g ai ai ai (by rw[List.length_append];omega) eU λH' v a ae ah ak au=>fin H' v a (pu.trans ae) (by rw[ah,List.append_assoc]) ak au
def Fe(i:dL x)(hlen:∀c∈x.o,c.ins.length<=2500){N:Nat}(u:2501<=N):∀(j k n:Nat) (H:ad) (f:Nat) (c:b3) (gv gw:aa) (l:List bz) (rv:aa),k+j=x.o.length->j<n->l.length+7*eR (x.o.drop k)<=1000000->eZ x f c gv gw cn cc M l H rv->
  W (nC (aC P ax) N n (.ptr M 0 0) cc (J X x.o.length) (J X k) H) λr H'=>dt M H H'/\bG c6 (M+1) bH H' (l++h2 x (x.o.drop k) k) r
 |_,_,0,_,_,_,_,_,_,_,_,hm,_,_=>ai
 |0,k,n+1,H,f,c,gv,gw,l,rv,A,_,_,m=>by
  have h:¬(k:Int)<(x.o.length:Int):=ai;simp-implicitDefEqProofs(disch:=try exact al)only[nC,u9,nA,aq,aO,aG,aM,h,decide_false,kp m.g];refine aK.2 ⟨.refl _ _,?_⟩;rw[List.drop_of_length_le ai,h2,List.append_nil];exact m.r
 |j+1,k,n+1,H,f,c,gv,gw,l,rv,A,an,az,m=>by
  have h:(k:Int)<(x.o.length:Int):=ai;have d:k<x.o.length:=ai;have ap:=m.lt;have ab:=i.o;obtain⟨L,nn,v,w,T,U,b8,cg⟩:∃L n v w,a6 P 24 cc (J X k)=D (.ptr L n 0)/\(∀H',ay H H'->aj P H' 49 (.ptr L n 0)=D (.agg (ct x.o[k] v w)))/\aZ ei H (· <M) x.o[k].vars v/\aZ e7 H (· <M) x.o[k].ins w:=by
   obtain⟨L,n,ro,els,cs,ae,_,ah,ak,v,w,rfl,b8,cg⟩:=m.aA.at_ (K:=fr) c0 (j:=(k:Int)) (a:=x.o[k]) ai (by simp[d]);exact⟨L,n,v,w,ae,λH' p=>fY (n:=7) (c:=0) ag ag (p.get ah) ak (by exact b4 7),b8,cg⟩
  have af:=hlen _ (List.getElem_mem d);have z:x.o[k]? =D x.o[k]:=by simp[d]
  have on:=Fe i hlen u j (k+1) n;rw[List.drop_eq_getElem_cons d,eR]at az;rw[List.drop_eq_getElem_cons d,h2,sB];generalize x.o[k]=g at*;have st:=nK (c:=g) (v:=v) (w:=w) (ad.bq H (.row Z 7 [[J X 0,.aB,y Z,J X 0,J X 0,J X 0,.aB]])) b8.one cg.one;obtain⟨s1,s2,G⟩:=Qm m (k:=k) b8 cg;have bP:=ad.bq H (.row Z 7 [ct g v w]);have Q:M≠H.next:=ai
  have q:∀b:bL,((H.push (.row Z 7 [ct g v w])).set M b).get H.next=D (.row Z 7 [ct g v w]):=λb=>by rw[ad.cW Q];exact bP
  have rg:aV (D (.agg (ct g v w))) (.agg (ct g v w))=true:=w_ b8 cg;simp-implicitDefEqProofs(disch:=try exact al)only[nC,u9,bf,Nat.reduceAdd,aq,aO,aG,aM,h,decide_true,T,U _ (ay.refl _),st,ad.fE,s1,s2,iy bP,iy (q _),rg,gj (q _),cg.len eb];refine Fc i z (R:=7*eR (x.o.drop (k+1))) g.ins.length 0 N _ l rv ai ai ai ai G ?_;intro H' V E pu e B O;rw[List.drop_zero]at e;have S:dt M H H':=by
   refine dt.trans ⟨by simp,λao am=> ?_⟩ pu;rw[ad.cW ai,ad.eN ai]
  simp-implicitDefEqProofs(disch:=try exact al)only[nB,aq,aG,c3 (show k<=1000000000 by omega)];refine(on H' k g v w E V ai ai B O).mono ?_;rintro r Y ⟨s,t⟩;exact⟨S.trans s,by rw[<-List.append_assoc,<-e];exact t⟩
def LB(l:right x=C){V:aa}(aD:c2 H ok x V):W (aC P ax 77 [V] H) λr H'=>bG c6 H.next bH H' (cons x) r/\ay H H':=by
 have v:=aD;have j:=je l;obtain⟨_,rfl,a,b,cc,d,rfl,ae,ah,ak,au⟩:=aD;refine bZ (λ_=>U3 2501) ?_;have t:=ay.push H (.row Z 5 [[a,b,cc,d,J X x.main]]);have f:=ad.bq H (.row Z 5 [[a,b,cc,d,J X x.main]]);have R:aV (D (.agg [a,b,cc,d,J X x.main])) (.agg [a,b,cc,d,J X x.main])=true:=by simp[aV,aa.beq,eE.beq,ae.rd,ah.rd,ak.rd,au.rd]
 simp-implicitDefEqProofs(disch:=try exact al)only[rR,aq,dZ ae ah ak au,ch f];refine bk (zI (v.aI t) (ti j) (tj l)) ?_;rintro _ K ⟨rfl,p⟩;refine⟨p.1,?_⟩;rw[l];simp-implicitDefEqProofs(disch:=try exact al)only[aq,Bool.not_true,ch (p.get f)];refine bk (FD j ((v.aI t).aI p)) ?_;rintro cn T ⟨cP,A⟩;refine⟨A.1,?_⟩;have m:=p.trans A;simp-implicitDefEqProofs(disch:=try exact al)only[aq,ch (m.get f)];refine bk (Ja j ((v.aI t).aI m)) ?_;rintro _ h ⟨rfl,z⟩;refine⟨z.1,?_⟩;have w:=m.trans z;have q:=t.trans w;have M:=ak.below.keep (H':=h) (ok':=(· <h.next)) λk b N g=>⟨Nat.lt_of_lt_of_le N q.1,q.get g⟩
 have O:=(cP.aI z).aJ.below;have no:=cP.aJ.one;have co:=ak.one
 let i:b3:=⟨0,[],Z,⟨0,0,0⟩,[]⟩
 have B:c7 P 196 [(1,cn),(3,J X (ey x.o)),(4,cc)]=D (.agg (gJ x 0 i .aB .aB cn cc .aB)):=CC no rfl co;have E:b0 h.next (.agg (gJ x 0 i .aB .aB cn cc .aB))=D (.ptr h.next 0 0,.row Z 12 [gJ x 0 i .aB .aB cn cc .aB]):=nV _ _ (by simp[gJ,no,co];simp[aa.one])
 have s:=ay.push h (.row Z 12 [gJ x 0 i .aB .aB cn cc .aB]);have Q:eZ x 0 i .aB .aB cn cc h.next [] (h.push (.row Z 12 [gJ x 0 i .aB .aB cn cc .aB])) .aB:=
  ⟨ad.bq _ _,bG.nil _ _ _ _,.inl ⟨rfl,rfl⟩,.inl ⟨rfl,rfl⟩,O.aI s,M.aI s⟩
 simp-implicitDefEqProofs(disch:=try exact al)only[bf,aq,aO,aM,dy (w.get f),dy (m.get f),dy (p.get f),ch (m.get f),ch (p.get f),R,eA ak,B,E,dy (s.get (w.get f)),ak.len c0];have hlen:∀c∈x.o,c.ins.length<=2500:=λc aA=>by have:=wh aA;have:=tk l;omega
 refine(Fe j hlen (b4 _) x.o.length 0 2501 _ 0 i .aB .aB [] .aB ai (by have:=j.o;omega) (by rw[List.drop_zero];have:=tk l;simp;omega) Q).mono ?_;rintro r S ⟨G,u⟩;rw[List.drop_zero,List.nil_append]at u;refine⟨⟨u.eG,λL n cap e=>by have:=u.low L n cap e;have:=q.1;omega⟩,q.trans (dt.aI (dt.trans (er s (b4 _)) G))⟩
end
end
section
set_option maxRecDepth 100000
noncomputable section
def qg(G:an)(N:Nat)(x8:aa)(H:ad):O:=some (x8,H)
def Vh(G:an)(N:Nat):∀R H,aX P G N (j (j (j (j (j (bb Tryz.f101)))))) (aR Tryz.f101) [] (aR Tryz.f101) R H=qg G N (R 8) H:=by
 refine bj (aw _) λR H=> ?_
 delta qg;kernel_rfl
def tn(G:an)(N:Nat)(a:aa->aa->aa->aa->ad->O)(x8 b:aa)(x50 x51:aa)(H:ad):O:=af (ar P .add 3 C x51 (J X 1)) λc=>a x8 b x50 c H
def Vi(G:an)(N:Nat)(a:aa->aa->aa->aa->ad->O):∀R H,aX P G N (j (j (j (aE (aE (j (aE (j (j (j (j (bb Tryz.f101)))))))))))) (λR H=>a (R 8) (R 49) (R 50) (R 51) H) [(2,(λR H=>qg G N (R 8) H))] (aR Tryz.f101) R H=tn G N a (R 8) (R 49) (R 50) (R 51) H:=by
 refine bj (aw _) λR H=> ?_
 delta tn;kernel_rfl
def AY(G:an)(N:Nat)(b:aa->aa->aa->aa->ad->O)(x8 a:aa)(x50 x51:aa)(H:ad):O:=af (ar P .lss 3 Z x51 x50) λx52=>aP (D x52) (af (a6 P 104 a x51) λc=>af (aj P H 4 c) λd=>aP (D d) (bx H (cv P (H).next 30 1 [(0,x51)]) λe ae=>aU ae (cS P ae [30,30] x8 e) λf ah=>tn G N b f a x50 x51 ah) (tn G N b x8 a x50 x51 H)) (qg G N x8 H)
def tp(G:an)(N:Nat):Nat->aa->aa->aa->aa->ad->O
 |0,_,_,_,_,_=>I
 |n+1,x8,a,x50,x51,H=>AY G N (tp G N n) x8 a x50 x51 H
def Vd(G:an)(N:Nat)(a:aa->aa->aa->aa->ad->O):∀R H,aX P G N (aE (aE (j (aE (j (j (j (j (bb Tryz.f101))))))))) (λR H=>a (R 8) (R 49) (R 50) (R 51) H) [(2,(λR H=>qg G N (R 8) H))] (aR Tryz.f101) R H=AY G N a (R 8) (R 49) (R 50) (R 51) H:=by
 refine bj ((aF ag ((aF ag ((aF ag (Vi G N a) (aw _))) (aw _))) (aw _))) λR H=> ?_
 delta AY;generalize qg G N=b;generalize tn G N a=c;revert b c;refine id ?_;intro b c;kernel_rfl
def tm(G:an)(N:Nat)(x5:aa)(H:ad):O:=bf P .len [104] [x5] H λx50=>tp G N N aa.aB x5 x50 (J X 0) H
def Vg(G:an)(N:Nat):∀R H,aX P G N (j (j (j (bb Tryz.f101)))) (aR Tryz.f101) [] (aR Tryz.f101) R H=tm G N (R 5) H:=by
 refine bj ((aF ag ((aF ag (Vh G N) ((aF ag ((bX ag ((cj (k:=λm R H=>tp G N m (R 8) (R 49) (R 50) (R 51) H) ag (λR H=>ag) (λm=>Vd G N (tp G N m)))))) (aw _))))) (aw _))) λR H=> ?_
 delta tm;generalize tp G N N=a;revert a;refine id ?_;intro a;kernel_rfl
def AZ(G:an)(N:Nat)(L4:aa->aa->aa->ad->O)(b x5 x6:aa)(H:ad):O:=bf P .len [30] [x6] H λi=>af (ar P .gtr 3 C i (J X 0)) λj=>aP (D j) (bf P .len [30] [x6] H λk=>af (ar P .sub 3 C k (J X 1)) λl=>af (a6 P 30 x6 l) λm=>af (aj P H 3 m) λc=>bf P .len [30] [x6] H λn=>af (ar P .sub 3 C n (J X 1)) λo=>af (fX P 30 x6 I (D o) I) λf=>aU H (G 147 [b,c] H) λa ae=>ao a C ae (bw x5) λp ah=>ao a C ah (bw c) λq ak=>ao a C ak (aH (a6 P 104 p q)) λr au=>ao a C au (qr (aj P au 4 r)) λs g=>ao a C g (aH (dg .not s)) λt d=>af (ba a (D t) (D (y Z))) λu=>aP (D u) (af (a6 P 104 x5 c) λv=>bY d (bA P d 4 v (y C)) λe=>af (a6 P 31 b c) λw=>af (aj P e 30 w) λx=>aU e (cS P e [30,30] f x) λz h=>L4 b x5 z h) (L4 b x5 f d)) (tm G N x5 H)
def tq(G:an)(N:Nat):Nat->aa->aa->aa->ad->O
 |0,_,_,_,_=>I
 |n+1,a,x5,x6,H=>AZ G N (tq G N n) a x5 x6 H
def Ve(G:an)(N:Nat)(L4:aa->aa->aa->ad->O):∀R H,aX P G N (aE (aE (j (aE (j (j (bb Tryz.f101))))))) (λR H=>L4 (R 0) (R 5) (R 6) H) [(0,(λR H=>tm G N (R 5) H))] (aR Tryz.f101) R H=AZ G N L4 (R 0) (R 5) (R 6) H:=by
 refine bj (aw _) λR H=> ?_
 delta AZ;generalize tm G N=a;revert a;refine id ?_;intro a;kernel_rfl
def xj(G:an)(N:Nat)(a x1:aa)(H:ad):O:=bf P .len [31] [a] H λx12=>bx H (e5 (fw P ⟨.leaf,(H).next⟩ 104 x12 x12) (H).next) λb ae=>aU ae (G 43 [x1] ae) λc ah=>tq G N N a b c ah
def Vf(G:an)(N:Nat)(b:aa)(x1:aa)(H:ad):bd Tryz.f101 G N (bO [b,x1]) H=xj G N b x1 H:=by
 refine bR (A:=bd Tryz.f101 G N) ((aF ag ((aF ag ((aF ag (Vg G N) ((aF ag ((bX ag ((cj (k:=λm R H=>tq G N m (R 0) (R 5) (R 6) H) ag (λR H=>ag) (λm=>Ve G N (tq G N m)))))) (aw _))))) (aw _))) (aw _))) ?_;delta xj;generalize tq G N N=a;revert a;refine id ?_;intro a;kernel_rfl
def xw(G:an)(b x1:aa)(H:ad):O:=af (ar P .geq 3 C x1 (J X 0)) λx6=>ao x6 C H (bw x1) λx8 ae=>ao x6 C ae (bw b) λa ah=>ao x6 C ah (λq=>cx (a2 P .empty .len [31] [a]) (a2 P ah .len [31] [a]) q) λx10 ak=>ao x6 C ak (aH (ar P .lss 3 Z x8 x10)) λx11 au=>af (ba x6 (D x11) (D (y Z))) λx12=>D (x12,au)
def Wl(G:an)(N:Nat)(a:aa)(x1:aa)(H:ad):bd Tryz.f147 G N (bO [a,x1]) H=xw G a x1 H:=by
 refine bR (A:=bd Tryz.f147 G N) (aw _) ?_;delta xw;kernel_rfl
end
end
end Go.Proofs.YtmhhnnklfcbgfaaGreat
namespace Go.bp
open Go.bo
open Go.bo
open Go.bo
open Go.bo
open Classical
end Go.bp
namespace Go.Proofs.YtmhhnnklfcbgfaaGreat
open Go.bo
section
open Go.bp
def fP(l:List Bool):List (List aa):=l.map λb=>[y b]
def Cm{l:List Bool}{i:Nat}{b:Bool}(h:l[i]? =D b):(fP l)[i]? =D [y b]:=by simp[fP,h]
def KH(l:List Bool)(i:Nat)(b:Bool):(fP l).set i [y b]=fP (l.set i b):=by simp[fP,List.map_set]
def IC{H:ad}{l:List Bool}{L i:Nat}{b b':Bool}(h:H.get L=D (.row Z 1 (fP l)))(a:l[i]? =D b):bA P H 4 (.ptr L i 0) (y b')=D (H.set L (.row Z 1 (fP (l.set i b')))):=by
 rw[fN IZ h (Cm a) rfl rfl ai,<-KH];rfl
def Qh(l n:Nat)(aS:n<=1000000000):e5 (fw P ⟨.leaf,l⟩ 104 (J X n) (J X n)) l=D (.aJ l 0 n 1 (D n),.row Z 1 (fP (List.replicate n Z))):=by
 rw[p9 (e:=4) (b:=1) (z:= y Z) ag ag ag ag rfl rfl b_ b_ l n aS];simp[fP,aa.cells]
section
variable {H:ad}{ok ok':Nat->Prop}
def bC(l:List Nat):List Int:=l.map λ(n:Nat)=>(n:Int)
end
end
section
set_option maxRecDepth 100000
noncomputable section
def ln(G:an)(N:Nat)(x8 b:aa)(H:ad):O:=af (aj P H 154 b) λa=>bY H (bA P H 154 x8 a) λae=>af (aj P ae 154 x8) λr=>D (.tuple [r,J X 0],ae)
def VU(G:an)(N:Nat):∀R H,aX P G N (j (j (j (j (j (j (j (j (j (j (j (bb Tryz.f130)))))))))))) (aR Tryz.f130) [] (aR Tryz.f130) R H=ln G N (R 8) (R 16) H:=by
 refine bj (aw _) λR H=> ?_
 delta ln;kernel_rfl
def mr(G:an)(N:Nat)(L4:aa->aa->aa->aa->aa->aa->ad->O)(x6 x8:aa)(x12 c:aa)(x104 a:aa)(H:ad):O:=af (ar P .add 3 C a (J X 1)) λb=>L4 x6 x8 x12 c x104 b H
def VV(G:an)(N:Nat)(L4:aa->aa->aa->aa->aa->aa->ad->O):∀R H,aX P G N (j (j (j (aE (aE (j (aE (j (j (j (j (j (j (j (j (j (j (bb Tryz.f130)))))))))))))))))) (λR H=>L4 (R 6) (R 8) (R 12) (R 16) (R 104) (R 105) H) [(6,(λR H=>ln G N (R 8) (R 16) H))] (aR Tryz.f130) R H=mr G N L4 (R 6) (R 8) (R 12) (R 16) (R 104) (R 105) H:=by
 refine bj (aw _) λR H=> ?_
 delta mr;kernel_rfl
def tC(G:an)(N:Nat)(L4:aa->aa->aa->aa->aa->aa->ad->O)(l:aa->aa->aa->aa->aa->aa->aa->aa->aa->ad->O)(x6 x8:aa)(x12 h:aa)(i x104:aa)(j k a:aa)(H:ad):O:=af (ar P .lss 3 Z a k) λm=>aP (D m) (aU H (G 184 [x12,i,a] H) λo ae=>af (cr x12) λn=>af (av P 248 n 2) λf=>af (aj P ae 243 f) λg=>af (a6 P 243 g o) λp=>af (aj P ae 251 p) λq=>aU ae (G 183 [q] ae) λr ah=>af (av P 154 h 1) λb=>af (aj P ah 152 b) λc=>af (a6 P 152 c i) λd=>af (aj P ah 31 d) λe=>af (a6 P 31 e a) λs=>bY ah (bA P ah 30 s r) λak=>bif ((aV (aj P H 243 f) g&&(aV (aj P ae 243 f) g&&C))&&((aV (aj P H 152 b) c&&(aV (aj P ae 152 b) c&&(aV (aj P ah 152 b) c&&C)))&&((aV (aj P H 31 d) e&&(aV (aj P ae 31 d) e&&(aV (aj P ah 31 d) e&&C)))&&C)))then(af (ar P .add 3 C a (J X 1)) λt=>l x6 x8 x12 h i x104 j k t ak)else I) (mr G N L4 x6 x8 x12 h x104 j H)
def mv(G:an)(N:Nat)(L4:aa->aa->aa->aa->aa->aa->ad->O):Nat->aa->aa->aa->aa->aa->aa->aa->aa->aa->ad->O
 |0,_,_,_,_,_,_,_,_,_,_=>I
 |n+1,x6,x8,x12,d,e,x104,a,b,c,H=>tC G N L4 (mv G N L4 n) x6 x8 x12 d e x104 a b c H
def VN(G:an)(N:Nat)(L4:aa->aa->aa->aa->aa->aa->ad->O)(b:aa->aa->aa->aa->aa->aa->aa->aa->aa->ad->O):∀R H,aX P G N (aE (aE (j (j (j (aE (aE (j (j (aE (aE (j (aE (j (j (j (j (j (j (j (j (j (j (bb Tryz.f130)))))))))))))))))))))))) (λR H=>b (R 6) (R 8) (R 12) (R 16) (R 18) (R 104) (R 105) (R 114) (R 115) H) [(8,(λR H=>mr G N L4 (R 6) (R 8) (R 12) (R 16) (R 104) (R 105) H)),(7,(λR H=>mr G N L4 (R 6) (R 8) (R 12) (R 16) (R 104) (R 105) H)),(6,(λR H=>ln G N (R 8) (R 16) H))] (aR Tryz.f130) R H=tC G N L4 b (R 6) (R 8) (R 12) (R 16) (R 18) (R 104) (R 105) (R 114) (R 115) H:=by
 refine bj (aw _) λR H=> ?_
 delta tC;generalize mr G N L4=a;revert a;refine id ?_;intro a;kernel_rfl
def tB(G:an)(N:Nat)(L4:aa->aa->aa->aa->aa->aa->ad->O)(x6 x8:aa)(x12 d:aa)(x104 a:aa)(H:ad):O:=af (ar P .lss 3 Z a x104) λf=>aP (D f) (af (av P 154 d 1) λb=>af (aj P H 152 b) λc=>af (aj P H 3 x6) λe=>bx H (e5 (fw P ⟨.leaf,(H).next⟩ 31 e e) (H).next) λg ae=>af (a6 P 152 c a) λh=>bY ae (bA P ae 31 h g) λah=>bif ((aV (aj P H 152 b) c&&(aV (aj P ae 152 b) c&&C))&&C)then(af (aj P ah 3 x6) λi=>mv G N L4 N x6 x8 x12 d a x104 a i (J X 0) ah)else I) (ln G N x8 d H)
def mu(G:an)(N:Nat):Nat->aa->aa->aa->aa->aa->aa->ad->O
 |0,_,_,_,_,_,_,_=>I
 |n+1,x6,x8,x12,b,x104,a,H=>tB G N (mu G N n) x6 x8 x12 b x104 a H
def VM(G:an)(N:Nat)(L4:aa->aa->aa->aa->aa->aa->ad->O):∀R H,aX P G N (aE (aE (j (aE (j (j (j (j (j (j (j (j (j (j (bb Tryz.f130))))))))))))))) (λR H=>L4 (R 6) (R 8) (R 12) (R 16) (R 104) (R 105) H) [(6,(λR H=>ln G N (R 8) (R 16) H))] (aR Tryz.f130) R H=tB G N L4 (R 6) (R 8) (R 12) (R 16) (R 104) (R 105) H:=by
 refine bj ((aF ag ((aF ag ((aF ag (VV G N L4) ((bX ag ((aF ag ((aF ag ((aF ag ((bX ag ((cj (k:=λm R H=>mv G N L4 m (R 6) (R 8) (R 12) (R 16) (R 18) (R 104) (R 105) (R 114) (R 115) H) ag (λR H=>ag) (λm=>VN G N L4 (mv G N L4 m)))))) (aw _))) (aw _))) (aw _))))))) (aw _))) (aw _))) λR H=> ?_
 delta tB;generalize ln G N=a;generalize mv G N L4 N=b;revert a b;refine id ?_;intro a b;kernel_rfl
def oC(G:an)(N:Nat)(x6 x8:aa)(x12 a:aa)(H:ad):O:=af (av P 154 a 1) λb=>af (aj P H 152 b) λc=>bf P .len [152] [c] H λx104=>mu G N N x6 x8 x12 a x104 (J X 0) H
def VT(G:an)(N:Nat):∀R H,aX P G N (j (j (j (j (j (j (j (j (j (j (bb Tryz.f130))))))))))) (aR Tryz.f130) [] (aR Tryz.f130) R H=oC G N (R 6) (R 8) (R 12) (R 16) H:=by
 refine bj ((aF ag (VU G N) ((aF ag ((bX ag ((cj (k:=λm R H=>mu G N m (R 6) (R 8) (R 12) (R 16) (R 104) (R 105) H) ag (λR H=>ag) (λm=>VM G N (mu G N m)))))) (aw _))))) λR H=> ?_
 delta oC;generalize mu G N N=a;revert a;refine id ?_;intro a;kernel_rfl
def tD(G:an)(N:Nat)(e:aa->aa->aa->aa->aa->aa->ad->O)(x6 x8:aa)(x12 b:aa)(d a:aa)(H:ad):O:=af (ar P .lss 3 Z a d) λx87=>aP (D x87) (af (cr x12) λh=>af (av P 248 h 2) λi=>af (aj P H 243 i) λj=>af (a6 P 243 j a) λk=>af (aj P H 251 k) λl=>aU H (G 183 [l] H) λm ae=>af (av P 154 b 0) λx89=>af (aj P ae 31 x89) λc=>af (a6 P 31 c a) λf=>bY ae (bA P ae 30 f m) λah=>bif ((aV (aj P H 31 x89) c&&(aV (aj P ae 31 x89) c&&C))&&C)then(af (ar P .add 3 C a (J X 1)) λg=>e x6 x8 x12 b d g ah)else I) (oC G N x6 x8 x12 b H)
def mw(G:an)(N:Nat):Nat->aa->aa->aa->aa->aa->aa->ad->O
 |0,_,_,_,_,_,_,_=>I
 |n+1,x6,x8,x12,a,b,c,H=>tD G N (mw G N n) x6 x8 x12 a b c H
def VO(G:an)(N:Nat)(b:aa->aa->aa->aa->aa->aa->ad->O):∀R H,aX P G N (aE (aE (j (aE (j (j (j (j (j (j (j (j (j (bb Tryz.f130)))))))))))))) (λR H=>b (R 6) (R 8) (R 12) (R 16) (R 85) (R 86) H) [(4,(λR H=>oC G N (R 6) (R 8) (R 12) (R 16) H))] (aR Tryz.f130) R H=tD G N b (R 6) (R 8) (R 12) (R 16) (R 85) (R 86) H:=by
 refine bj (aw _) λR H=> ?_
 delta tD;generalize oC G N=a;revert a;refine id ?_;intro a;kernel_rfl
def oB(G:an)(N:Nat)(x4 x5:aa)(x6 x8 x12:aa)(H:ad):O:=aU H (G 182 [x12] H) λk ae=>af (aj P ae 3 x4) λd=>bx ae (e5 (fw P ⟨.leaf,(ae).next⟩ 31 d d) (ae).next) λe ah=>af (aj P ah 3 x5) λa=>bx ah (e5 (fw P ⟨.leaf,(ah).next⟩ 152 a a) (ah).next) λf ak=>af (c7 P 154 [(0,e),(1,f)]) λg=>cA ak [aa.aB,aa.aB] λc au=>bY au (bA P au 154 c g) λb=>bif ((aV (aj P ae 3 x4) d&&C)&&((aV (aj P ae 3 x5) a&&(aV (aj P ah 3 x5) a&&C))&&C))then(af (av P 154 c 0) λh=>af (aj P b 31 h) λi=>bf P .len [31] [i] b λj=>mw G N N x6 x8 x12 c j (J X 0) b)else I
def VS(G:an)(N:Nat):∀R H,aX P G N (j (j (j (j (j (j (j (bb Tryz.f130)))))))) (aR Tryz.f130) [] (aR Tryz.f130) R H=oB G N (R 4) (R 5) (R 6) (R 8) (R 12) H:=by
 refine bj ((aF ag ((aF ag ((aF ag (VT G N) ((aF ag ((bX ag ((cj (k:=λm R H=>mw G N m (R 6) (R 8) (R 12) (R 16) (R 85) (R 86) H) ag (λR H=>ag) (λm=>VO G N (mw G N m)))))) (aw _))))) (aw _))) (aw _))) λR H=> ?_
 delta oB;generalize mw G N N=a;revert a;refine id ?_;intro a;kernel_rfl
def tE(G:an)(N:Nat)(c:aa->aa->aa->aa->aa->aa->aa->ad->O)(x4 x5:aa)(x6 x8:aa)(x12 b a:aa)(H:ad):O:=af (ar P .lss 3 Z a b) λd=>aP (D d) (aU H (G 181 [x12,a] H) λf ae=>af (ar P .add 3 C a (J X 1)) λe=>c x4 x5 x6 x8 x12 b e ae) (oB G N x4 x5 x6 x8 x12 H)
def mx(G:an)(N:Nat):Nat->aa->aa->aa->aa->aa->aa->aa->ad->O
 |0,_,_,_,_,_,_,_,_=>I
 |n+1,x4,x5,x6,x8,x12,a,b,H=>tE G N (mx G N n) x4 x5 x6 x8 x12 a b H
def VP(G:an)(N:Nat)(b:aa->aa->aa->aa->aa->aa->aa->ad->O):∀R H,aX P G N (aE (aE (j (aE (j (j (j (j (j (j (bb Tryz.f130))))))))))) (λR H=>b (R 4) (R 5) (R 6) (R 8) (R 12) (R 68) (R 69) H) [(2,(λR H=>oB G N (R 4) (R 5) (R 6) (R 8) (R 12) H))] (aR Tryz.f130) R H=tE G N b (R 4) (R 5) (R 6) (R 8) (R 12) (R 68) (R 69) H:=by
 refine bj (aw _) λR H=> ?_
 delta tE;generalize oB G N=a;revert a;refine id ?_;intro a;kernel_rfl
def oA(G:an)(N:Nat)(x4 x5:aa)(x6 x8:aa)(x11 x12:aa)(H:ad):O:=mx G N N x4 x5 x6 x8 x12 x11 (J X 0) H
def VR(G:an)(N:Nat):∀R H,aX P G N (j (j (j (j (j (j (bb Tryz.f130))))))) (aR Tryz.f130) [] (aR Tryz.f130) R H=oA G N (R 4) (R 5) (R 6) (R 8) (R 11) (R 12) H:=by
 refine bj ((aF ag (VS G N) ((aF ag ((bX ag ((cj (k:=λm R H=>mx G N m (R 4) (R 5) (R 6) (R 8) (R 12) (R 68) (R 69) H) ag (λR H=>ag) (λm=>VP G N (mx G N m)))))) (aw _))))) λR H=> ?_
 delta oA;generalize mx G N N=a;revert a;refine id ?_;intro a;kernel_rfl
def tF(G:an)(N:Nat)(e:aa->aa->aa->aa->aa->aa->aa->aa->aa->ad->O)(x4 x5:aa)(x6 x8:aa)(x11 x12:aa)(c d a:aa)(H:ad):O:=af (ar P .lss 3 Z a d) λf=>aP (D f) (af (a6 P 53 c a) λg=>af (aj P H 56 g) λh=>cA H [J X 0,J X 0,J X 0,J X 0] λb ae=>bY ae (bA P ae 56 b h) λah=>af (aj P ah 56 b) λi=>aU ah (G 180 [x12,i] ah) λk ak=>af (ar P .add 3 C a (J X 1)) λj=>e x4 x5 x6 x8 x11 x12 c d j ak) (oA G N x4 x5 x6 x8 x11 x12 H)
def my(G:an)(N:Nat):Nat->aa->aa->aa->aa->aa->aa->aa->aa->aa->ad->O
 |0,_,_,_,_,_,_,_,_,_,_=>I
 |n+1,x4,x5,x6,x8,x11,x12,a,b,c,H=>tF G N (my G N n) x4 x5 x6 x8 x11 x12 a b c H
def VQ(G:an)(N:Nat)(b:aa->aa->aa->aa->aa->aa->aa->aa->aa->ad->O):∀R H,aX P G N (aE (aE (j (aE (j (j (j (j (j (bb Tryz.f130)))))))))) (λR H=>b (R 4) (R 5) (R 6) (R 8) (R 11) (R 12) (R 58) (R 59) (R 60) H) [(0,(λR H=>oA G N (R 4) (R 5) (R 6) (R 8) (R 11) (R 12) H))] (aR Tryz.f130) R H=tF G N b (R 4) (R 5) (R 6) (R 8) (R 11) (R 12) (R 58) (R 59) (R 60) H:=by
 refine bj (aw _) λR H=> ?_
 delta tF;generalize oA G N=a;revert a;refine id ?_;intro a;kernel_rfl
def qt(G:an)(N:Nat)(z x1:aa)(x2 s:aa)(H:ad):O:=bx H (b0 (H).next z) λx4 ae=>bx ae (b0 (ae).next x1) λx5 ah=>bx ah (b0 (ah).next x2) λx6 ak=>cA ak [aa.aB,aa.aB] λx8 au=>af (aj P au 3 x4) λA=>aU au (G 176 [A,J X 70001] au) λo u=>ao o C u (qr (aj P u 3 x5)) λB m=>ao o C m (λq=>b9 m (G 176 [B,J X 61] m) q) λE v=>af (ba o (D E) (D (y Z))) λp=>ao p C v (qr (aj P v 3 x6)) λK n=>ao p C n (λq=>b9 n (G 176 [K,J X 9] n) q) λL x=>af (ba p (D L) (D (y Z))) λM=>af (dg .not M) λk=>ao k Z x (bw s) λQ w=>ao k Z w (bw (.func (.func 178) [] [x4,x5,x6])) λR l=>ao k Z l (λq=>b9 l (G 177 [Q,R] l) q) λS a=>af (ba k (D (y C)) (D S)) λT=>aP (D T) (bY a (bA P a 154 x8 (.agg [aa.aB,aa.aB])) λc=>af (aj P c 154 x8) λr=>D (.tuple [r,J X 5],c)) (af (aj P a 3 x4) λU=>af (aj P a 3 x5) λV=>af (aj P a 3 x6) λW=>af (ar P .mul 3 Z V W) λY=>af (ar P .add 3 Z U Y) λb=>af (aj P a 3 x4) λd=>af (aj P a 3 x6) λe=>bx a (e5 (fw P ⟨.leaf,(a).next⟩ 243 b b) (a).next) λab c=>bx c (e5 (fw P ⟨.leaf,(c).next⟩ 31 b b) (c).next) λag f=>bx f (e5 (fw P ⟨.leaf,(f).next⟩ 244 b b) (f).next) λx50 g=>bx g (e5 (fw P ⟨.leaf,(g).next⟩ 243 b b) (g).next) λx52 i=>bx i (D (.map (i).next,.map [])) λai h=>bx h (e5 (fw P ⟨.leaf,(h).next⟩ 104 b b) (h).next) λal j=>af (c7 P 248 [(0,d),(1,e),(2,ab),(3,ag),(4,x50),(5,x52),(6,ai),(8,al)]) λam=>bx j (b0 (j).next am) λap t=>bif ((aV (aj P a 3 x4) d&&(aV (aj P c 3 x4) d&&(aV (aj P f 3 x4) d&&(aV (aj P g 3 x4) d&&(aV (aj P i 3 x4) d&&(aV (aj P h 3 x4) d&&(aV (aj P j 3 x4) d&&C)))))))&&((aV (aj P a 3 x6) e&&(aV (aj P c 3 x6) e&&(aV (aj P f 3 x6) e&&(aV (aj P g 3 x6) e&&(aV (aj P i 3 x6) e&&(aV (aj P h 3 x6) e&&(aV (aj P j 3 x6) e&&C)))))))&&C))then(bf P .len [53] [s] t λaq=>my G N N x4 x5 x6 x8 b ap s aq (J X 0) t)else I)
def GX(G:an)(N:Nat)(b:aa)(x1:aa)(x2:aa)(c:aa)(H:ad):bd Tryz.f130 G N (bO [b,x1,x2,c]) H=qt G N b x1 x2 c H:=by
 refine bR (A:=bd Tryz.f130 G N) ((aF ag ((aF ag ((aF ag ((aF ag ((aF ag ((aF ag (VR G N) ((aF ag ((bX ag ((cj (k:=λm R H=>my G N m (R 4) (R 5) (R 6) (R 8) (R 11) (R 12) (R 58) (R 59) (R 60) H) ag (λR H=>ag) (λm=>VQ G N (my G N m)))))) (aw _))))) (aw _))) (aw _))) (aw _))) (aw _))) (aw _))) ?_;delta qt;generalize my G N N=a;revert a;refine id ?_;intro a;kernel_rfl
def TK(N:Nat){a x1 x2 b:aa}{H:ad}{r:aa×ad}(h:qt (aC P ax) N a x1 x2 b H=D r):aC P ax 130 [a,x1,x2,b] H=D r:=
 cp ag Tryz.func130 ag ag ag ((GX (aC P ax) N a x1 x2 b H).trans h)
def oN(G:an)(a x1:aa)(H:ad):O:=af (ar P .geq 3 C a (J X 0)) λx6=>ao x6 C H (bw a) λx8 ae=>ao x6 C ae (bw x1) λb ah=>ao x6 C ah (aH (ar P .lss 3 Z x8 b)) λx10 ak=>af (ba x6 (D x10) (D (y Z))) λx11=>D (x11,ak)
def Ha(G:an)(N:Nat)(a:aa)(x1:aa)(H:ad):bd Tryz.f176 G N (bO [a,x1]) H=oN G a x1 H:=by
 refine bR (A:=bd Tryz.f176 G N) (aw _) ?_;delta oN;kernel_rfl
def T0(N:Nat){a x1:aa}{H:ad}{r:aa×ad}(h:oN (aC P ax) a x1 H=D r):aC P ax 176 [a,x1] H=D r:=
 cp ag Tryz.func176 ag ag ag ((Ha (aC P ax) N a x1 H).trans h)
def qH(G:an)(a x1:aa)(x2 b:aa)(H:ad):O:=bx H (b0 (H).next a) λx4 ae=>af (aj P ae 56 x4) λx6=>af (aj P ae 3 x1) λx7=>af (aj P ae 3 x2) λx8=>af (aj P ae 3 b) λc=>aU ae (G 179 [x6,x7,x8,c] ae) λx10 ah=>af (dg .not x10) λx11=>D (x11,ah)
def Hc(G:an)(N:Nat)(a:aa)(x1:aa)(x2:aa)(b:aa)(H:ad):bd Tryz.f178 G N (bO [a,x1,x2,b]) H=qH G a x1 x2 b H:=by
 refine bR (A:=bd Tryz.f178 G N) (aw _) ?_;delta qH;kernel_rfl
def T4(N:Nat){a x1 x2 b:aa}{H:ad}{r:aa×ad}(h:qH (aC P ax) a x1 x2 b H=D r):aC P ax 178 [a,x1,x2,b] H=D r:=
 cp ag Tryz.func178 ag ag ag ((Hc (aC P ax) N a x1 x2 b H).trans h)
def qI(G:an)(H:ad):O:=some ((y Z),H)
def WL(G:an)(N:Nat):∀R H,aX P G N (j (j (bb Tryz.f179))) (aR Tryz.f179) [] (aR Tryz.f179) R H=qI G H:=by
 refine bj (aw _) λR H=> ?_
 delta qI;kernel_rfl
def mK(G:an)(x1 x2:aa)(i x4:aa)(x10 j:aa)(H:ad):O:=aP (D j) (af (av P 56 x4 1) λk=>af (aj P H 3 k) λl=>aU H (G 176 [l,x1] H) λa ae=>ao a C ae (aH (av P 56 x4 2)) λm ah=>ao a C ah (qr (aj P ah 3 m)) λn ak=>ao a C ak (bw x1) λo au=>ao a C au (λq=>b9 au (G 176 [n,o] au) q) λp d=>af (ba a (D p) (D (y Z))) λb=>ao b C d (aH (av P 56 x4 3)) λr f=>ao b C f (qr (aj P f 3 r)) λx50 g=>ao b C g (bw i) λx51 e=>ao b C e (λq=>b9 e (G 176 [x50,x51] e) q) λx52 h=>af (ba b (D x52) (D (y Z))) λs=>D (s,h)) (af (ar P .eql 3 C x10 (J X 5)) λt=>aP (D t) (af (av P 56 x4 1) λu=>af (aj P H 3 u) λv=>aU H (G 176 [v,x2] H) λc ae=>ao c C ae (aH (av P 56 x4 2)) λw ah=>ao c C ah (qr (aj P ah 3 w)) λx ak=>ao c C ak (bw x2) λz au=>ao c C au (λq=>b9 au (G 176 [x,z] au) q) λA d=>af (ba c (D A) (D (y Z))) λB=>D (B,d)) (qI G H))
def WM(G:an)(N:Nat):∀R H,aX P G N (j (j (j (j (j (aE (j (aE (j (bb Tryz.f179)))))))))) (λR H=>qI G H) [(0,(λR H=>qI G H))] (aR Tryz.f179) R H=mK G (R 1) (R 2) (R 3) (R 4) (R 10) (R 35) H:=by
 refine bj (aw _) λR H=> ?_
 delta mK;generalize qI G=a;revert a;refine id ?_;intro a;kernel_rfl
def kz(G:an)(g x1:aa)(x2 e:aa)(H:ad):O:=bx H (b0 (H).next g) λx4 ae=>af (av P 56 x4 0) λz=>af (aj P ae 3 z) λx10=>af (ar P .eql 3 C x10 (J X 1)) λx12=>aP (D x12) (af (av P 56 x4 1) λh=>af (aj P ae 3 h) λi=>aU ae (G 176 [i,x1] ae) λb ah=>ao b C ah (aH (av P 56 x4 2)) λj ak=>ao b C ak (qr (aj P ak 3 j)) λk au=>ao b C au (bw x2) λl a=>ao b C a (λq=>b9 a (G 176 [k,l] a) q) λm d=>af (ba b (D m) (D (y Z))) λn=>D (n,d)) (af (ar P .eql 3 C x10 (J X 2)) λo=>aP (D o) (af (av P 56 x4 1) λp=>af (aj P ae 3 p) λr=>aU ae (G 176 [r,x1] ae) λc ah=>ao c C ah (aH (av P 56 x4 2)) λs ak=>ao c C ak (qr (aj P ak 3 s)) λt au=>ao c C au (bw x1) λu a=>ao c C a (λq=>b9 a (G 176 [t,u] a) q) λv d=>af (ba c (D v) (D (y Z))) λw=>D (w,d)) (af (ar P .eql 3 C x10 (J X 3)) λf=>aP (D f) (mK G x1 x2 e x4 x10 f ae) (af (ar P .eql 3 C x10 (J X 4)) λx=>mK G x1 x2 e x4 x10 x ae)))
def Hd(G:an)(N:Nat)(b:aa)(x1:aa)(x2:aa)(c:aa)(H:ad):bd Tryz.f179 G N (bO [b,x1,x2,c]) H=kz G b x1 x2 c H:=by
 refine bR (A:=bd Tryz.f179 G N) ((aF ag ((aF ag (WL G N) ((aF ag ((bX ag ((aF ag ((dx ag (aw _) ((aF ag ((dx ag (aw _) ((aF ag (WM G N) (aw _))))) (aw _))))) (aw _))))) (aw _))))) (aw _))) ?_;delta kz;generalize mK G=a;revert a;refine id ?_;intro a;kernel_rfl
def T5(N:Nat){a x1 x2 b:aa}{H:ad}{r:aa×ad}(h:kz (aC P ax) a x1 x2 b H=D r):aC P ax 179 [a,x1,x2,b] H=D r:=
 cp ag Tryz.func179 ag ag ag ((Hd (aC P ax) N a x1 x2 b H).trans h)
def uh(G:an)(N:Nat)(L0:aa->aa->aa->aa->ad->O)(a c:aa)(h b:aa)(H:ad):O:=af (ar P .lss 3 Z b h) λn=>aP (D n) (af (av P 56 c 1) λx87=>af (aj P H 3 x87) λx88=>aU H (G 184 [a,x88,b] H) λo ae=>af (av P 56 c 2) λe=>af (aj P ae 3 e) λf=>aU ae (G 184 [a,f,b] ae) λp ah=>aU ah (G 221 [a,o,p] ah) λs ak=>bif ((aV (aj P H 3 e) f&&(aV (aj P ae 3 e) f&&C))&&C)then(af (av P 56 c 2) λq=>af (aj P ak 3 q) λj=>aU ak (G 184 [a,j,b] ak) λk au=>af (av P 56 c 1) λx104=>af (aj P au 3 x104) λd=>aU au (G 184 [a,d,b] au) λl g=>aU g (G 221 [a,k,l] g) λr i=>bif ((aV (aj P ak 3 x104) d&&(aV (aj P au 3 x104) d&&C))&&C)then(af (ar P .add 3 C b (J X 1)) λm=>L0 a c h m i)else I)else I) (D (.tuple [],H))
def mL(G:an)(N:Nat):Nat->aa->aa->aa->aa->ad->O
 |0,_,_,_,_,_=>I
 |n+1,a,b,c,d,H=>uh G N (mL G N n) a b c d H
def WR(G:an)(N:Nat)(L0:aa->aa->aa->aa->ad->O):∀R H,aX P G N (aE (aE (j (aE (j (j (j (j (j (j (j (j (j (aE (j (j (bb Tryz.f180))))))))))))))))) (λR H=>L0 (R 0) (R 3) (R 81) (R 82) H) [(1,(aR Tryz.f180)),(0,(aR Tryz.f180))] (aR Tryz.f180) R H=uh G N L0 (R 0) (R 3) (R 81) (R 82) H:=by
 refine bj (aw _) λR H=> ?_
 delta uh;kernel_rfl
def kA(G:an)(N:Nat)(b x1:aa)(H:ad):O:=bx H (b0 (H).next x1) λa ae=>af (av P 56 a 0) λx5=>af (aj P ae 3 x5) λx6=>af (ar P .eql 3 C x6 (J X 1)) λx8=>aP (D x8) (af (av P 56 a 1) λx10=>af (aj P ae 3 x10) λx11=>af (av P 56 a 2) λx12=>af (aj P ae 3 x12) λw=>af (ar P .shl 251 C (J .u64 1) w) λx=>aU ae (G 220 [b,x11,x] ae) λaI ah=>D (.tuple [],ah)) (af (ar P .eql 3 C x6 (J X 2)) λz=>aP (D z) (af (av P 56 a 2) λA=>af (aj P ae 3 A) λB=>af (av P 56 a 1) λE=>af (aj P ae 3 E) λK=>aU ae (G 221 [b,B,K] ae) λaK ah=>D (.tuple [],ah)) (af (ar P .eql 3 C x6 (J X 3)) λL=>aP (D L) (af (cr b) λQ=>af (av P 248 Q 4) λk=>af (aj P ae 244 k) λl=>af (av P 56 a 2) λm=>af (aj P ae 3 m) λn=>af (a6 P 244 l n) λo=>af (aj P ae 284 o) λp=>af (av P 56 a 0) λR=>af (aj P ae 3 R) λS=>af (av P 56 a 1) λT=>af (aj P ae 3 T) λU=>af (av P 56 a 3) λV=>af (aj P ae 3 V) λW=>af (c7 P 286 [(0,S),(1,U),(2,W)]) λY=>bx ae (cv P (ae).next 284 1 [(0,Y)]) λab ah=>aU ah (cS P ah [284,284] p ab) λag ak=>af (cr b) λM=>af (av P 248 M 4) λc=>af (aj P ak 244 c) λd=>af (av P 56 a 2) λe=>af (aj P ak 3 e) λf=>af (a6 P 244 d f) λai=>bY ak (bA P ak 284 ai ag) λau=>bif ((aV (aj P ae 244 k) l&&(aV (aj P ah 244 k) l&&C))&&((aV (aj P ae 3 m) n&&(aV (aj P ah 3 m) n&&C))&&((aV (aj P ae 284 o) p&&(aV (aj P ah 284 o) p&&C))&&((aV (aj P ae 244 c) d&&(aV (aj P ah 244 c) d&&(aV (aj P ak 244 c) d&&C)))&&((aV (aj P ae 3 e) f&&(aV (aj P ah 3 e) f&&(aV (aj P ak 3 e) f&&C)))&&C)))))then(D (.tuple [],au))else I) (af (ar P .eql 3 C x6 (J X 4)) λx51=>aP (D x51) (af (cr b) λam=>af (av P 248 am 4) λq=>af (aj P ae 244 q) λr=>af (av P 56 a 1) λs=>af (aj P ae 3 s) λt=>af (a6 P 244 r t) λu=>af (aj P ae 284 u) λv=>af (av P 56 a 0) λao=>af (aj P ae 3 ao) λap=>af (av P 56 a 2) λaq=>af (aj P ae 3 aq) λaw=>af (av P 56 a 3) λax=>af (aj P ae 3 ax) λay=>af (c7 P 286 [(0,ap),(1,aw),(2,ay)]) λaz=>bx ae (cv P (ae).next 284 1 [(0,az)]) λaA ah=>aU ah (cS P ah [284,284] v aA) λaC ak=>af (cr b) λal=>af (av P 248 al 4) λg=>af (aj P ak 244 g) λh=>af (av P 56 a 1) λi=>af (aj P ak 3 i) λj=>af (a6 P 244 h j) λaD=>bY ak (bA P ak 284 aD aC) λau=>bif ((aV (aj P ae 244 q) r&&(aV (aj P ah 244 q) r&&C))&&((aV (aj P ae 3 s) t&&(aV (aj P ah 3 s) t&&C))&&((aV (aj P ae 284 u) v&&(aV (aj P ah 284 u) v&&C))&&((aV (aj P ae 244 g) h&&(aV (aj P ah 244 g) h&&(aV (aj P ak 244 g) h&&C)))&&((aV (aj P ae 3 i) j&&(aV (aj P ah 3 i) j&&(aV (aj P ak 3 i) j&&C)))&&C)))))then(D (.tuple [],au))else I) (af (ar P .eql 3 C x6 (J X 5)) λaE=>aP (D aE) (af (cr b) λaF=>af (av P 248 aF 1) λaG=>af (aj P ae 3 aG) λaH=>mL G N N b a aH (J X 0) ae) (D (.tuple [],ae))))))
def He(G:an)(N:Nat)(b:aa)(x1:aa)(H:ad):bd Tryz.f180 G N (bO [b,x1]) H=kA G N b x1 H:=by
 refine bR (A:=bd Tryz.f180 G N) ((aF ag ((aF ag ((bX ag ((aF ag ((dx ag (aw _) ((aF ag ((dx ag (aw _) ((aF ag ((dx ag (aw _) ((aF ag ((dx ag (aw _) ((aF ag ((dx ag ((aF ag ((bX ag ((cj (k:=λm R H=>mL G N m (R 0) (R 3) (R 81) (R 82) H) ag (λR H=>ag) (λm=>WR G N (mL G N m)))))) (aw _))) (aw _))) (aw _))))) (aw _))))) (aw _))))) (aw _))))) (aw _))))) (aw _))) (aw _))) ?_;delta kA;generalize mL G N N=a;revert a;refine id ?_;intro a;kernel_rfl
def T6(N:Nat){a x1:aa}{H:ad}{r:aa×ad}(h:kA (aC P ax) N a x1 H=D r):aC P ax 180 [a,x1] H=D r:=
 cp ag Tryz.func180 ag ag ag ((He (aC P ax) N a x1 H).trans h)
def oO(G:an)(a x1:aa)(H:ad):O:=af (cr a) λx5=>af (av P 248 x5 8) λx6=>af (aj P H 104 x6) λx7=>af (a6 P 104 x7 x1) λj=>af (aj P H 4 j) λx10=>af (dg .not x10) λx11=>aP (D x11) (af (cr a) λb=>af (av P 248 b 8) λc=>af (aj P H 104 c) λd=>af (a6 P 104 d x1) λe=>bY H (bA P H 4 e (y C)) λae=>af (cr a) λf=>af (av P 248 f 7) λg=>af (ih P 288 g) λh=>af (ih P 3 x1) λi=>aU ae (G 222 [h,i] ae) λk ah=>D (.tuple [],ah)) (D (.tuple [],H))
def Hf(G:an)(N:Nat)(a:aa)(x1:aa)(H:ad):bd Tryz.f181 G N (bO [a,x1]) H=oO G a x1 H:=by
 refine bR (A:=bd Tryz.f181 G N) (aw _) ?_;delta oO;kernel_rfl
def T7(N:Nat){a x1:aa}{H:ad}{r:aa×ad}(h:oO (aC P ax) a x1 H=D r):aC P ax 181 [a,x1] H=D r:=
 cp ag Tryz.func181 ag ag ag ((Hf (aC P ax) N a x1 H).trans h)
def ui(G:an)(N:Nat)(L0:aa->ad->O)(e:aa->aa->aa->aa->aa->ad->O)(a x2:aa)(c d b:aa)(H:ad):O:=af (ar P .lss 3 Z b d) λf=>aP (D f) (af (a6 P 30 c b) λg=>af (aj P H 3 g) λh=>af (cr a) λi=>af (av P 248 i 2) λj=>af (aj P H 243 j) λk=>af (a6 P 243 k x2) λl=>af (aj P H 251 l) λm=>aU H (G 220 [a,h,m] H) λo ae=>af (ar P .add 3 C b (J X 1)) λn=>e a x2 c d n ae) (L0 a H)
def mM(G:an)(N:Nat)(L0:aa->ad->O):Nat->aa->aa->aa->aa->aa->ad->O
 |0,_,_,_,_,_,_=>I
 |n+1,a,x2,b,c,d,H=>ui G N L0 (mM G N L0 n) a x2 b c d H
def WT(G:an)(N:Nat)(L0:aa->ad->O)(b:aa->aa->aa->aa->aa->ad->O):∀R H,aX P G N (aE (aE (j (j (j (j (j (j (aE (j (aE (aE (bb Tryz.f182))))))))))))) (λR H=>b (R 0) (R 2) (R 69) (R 70) (R 71) H) [(4,(λR H=>L0 (R 0) H)),(1,(λR H=>L0 (R 0) H)),(0,(aR Tryz.f182))] (aR Tryz.f182) R H=ui G N L0 b (R 0) (R 2) (R 69) (R 70) (R 71) H:=by
 refine bj (aw _) λR H=> ?_
 delta ui;generalize L0=a;revert a;refine id ?_;intro a;kernel_rfl
def oP(G:an)(N:Nat)(L0:aa->ad->O)(a x2:aa)(H:ad):O:=af (cr a) λc=>af (av P 248 c 3) λd=>af (aj P H 31 d) λe=>af (a6 P 31 e x2) λf=>af (aj P H 30 f) λb=>bf P .len [30] [b] H λg=>mM G N L0 N a x2 b g (J X 0) H
def WV(G:an)(N:Nat)(L0:aa->ad->O):∀R H,aX P G N (j (j (j (j (j (aE (j (aE (aE (bb Tryz.f182)))))))))) (λR H=>L0 (R 0) H) [(1,(λR H=>L0 (R 0) H)),(0,(aR Tryz.f182))] (aR Tryz.f182) R H=oP G N L0 (R 0) (R 2) H:=by
 refine bj ((aF ag ((bX ag ((cj (k:=λm R H=>mM G N L0 m (R 0) (R 2) (R 69) (R 70) (R 71) H) ag (λR H=>ag) (λm=>WT G N L0 (mM G N L0 m)))))) (aw _))) λR H=> ?_
 delta oP;generalize mM G N L0 N=a;revert a;refine id ?_;intro a;kernel_rfl
def uj(G:an)(N:Nat)(L0:aa->ad->O)(d:aa->aa->aa->aa->aa->ad->O)(a x2:aa)(x52 c b:aa)(H:ad):O:=af (ar P .lss 3 Z b c) λe=>aP (D e) (af (a6 P 30 x52 b) λf=>af (aj P H 3 f) λg=>aU H (G 225 [a,x2,g] H) λi ae=>af (ar P .add 3 C b (J X 1)) λh=>d a x2 x52 c h ae) (oP G N L0 a x2 H)
def mN(G:an)(N:Nat)(L0:aa->ad->O):Nat->aa->aa->aa->aa->aa->ad->O
 |0,_,_,_,_,_,_=>I
 |n+1,a,x2,x52,b,c,H=>uj G N L0 (mN G N L0 n) a x2 x52 b c H
def WU(G:an)(N:Nat)(L0:aa->ad->O)(b:aa->aa->aa->aa->aa->ad->O):∀R H,aX P G N (aE (aE (j (aE (j (j (j (j (aE (j (aE (aE (bb Tryz.f182))))))))))))) (λR H=>b (R 0) (R 2) (R 52) (R 53) (R 54) H) [(2,(λR H=>oP G N L0 (R 0) (R 2) H)),(1,(λR H=>L0 (R 0) H)),(0,(aR Tryz.f182))] (aR Tryz.f182) R H=uj G N L0 b (R 0) (R 2) (R 52) (R 53) (R 54) H:=by
 refine bj (aw _) λR H=> ?_
 delta uj;generalize oP G N L0=a;revert a;refine id ?_;intro a;kernel_rfl
def xH(G:an)(N:Nat)(L0:aa->ad->O)(a:aa)(H:ad):O:=af (cr a) λM=>af (av P 248 M 7) λx10=>af (aj P H 246 x10) λx11=>aU H (G 223 [x11] H) λx12 ae=>af (ar P .gtr 3 C x12 (J X 0)) λf=>aP (D f) (af (cr a) λg=>af (av P 248 g 7) λh=>af (ih P 288 h) λi=>aU ae (G 224 [i] ae) λj ah=>af (nR P 3 Z j) λb=>af (cr a) λk=>af (av P 248 k 8) λl=>af (aj P ah 104 l) λm=>af (a6 P 104 m b) λn=>bY ah (bA P ah 4 n (y Z)) λak=>af (cr a) λo=>af (av P 248 o 2) λp=>af (aj P ak 243 p) λq=>af (a6 P 243 q b) λr=>af (aj P ak 251 r) λs=>af (cr a) λt=>af (av P 248 t 5) λu=>af (aj P ak 243 u) λv=>af (a6 P 243 v b) λw=>af (aj P ak 251 w) λx=>af (ar P .andNot 251 Z s x) λd=>af (cr a) λz=>af (av P 248 z 5) λA=>af (aj P ak 243 A) λe=>af (a6 P 243 e b) λB=>af (aj P ak 251 B) λE=>af (ar P .or 251 Z E d) λK=>af (a6 P 243 e b) λx50=>bY ak (bA P ak 251 x50 K) λau=>aU au (G 183 [d] au) λx52 c=>bf P .len [30] [x52] c λL=>mN G N L0 N a b x52 L (J X 0) c) (D (.tuple [],ae))
def oQ(G:an)(N:Nat):Nat->aa->ad->O
 |0,_,_=>I
 |n+1,a,H=>xH G N (oQ G N n) a H
def WS(G:an)(N:Nat)(L0:aa->ad->O):∀R H,aX P G N (aE (aE (bb Tryz.f182))) (λR H=>L0 (R 0) H) [(0,(aR Tryz.f182))] (aR Tryz.f182) R H=xH G N L0 (R 0) H:=by
 refine bj ((aF ag ((bX ag ((aF ag ((aF ag ((aF ag ((aF ag ((aF ag (WV G N L0) ((aF ag ((bX ag ((cj (k:=λm R H=>mN G N L0 m (R 0) (R 2) (R 52) (R 53) (R 54) H) ag (λR H=>ag) (λm=>WU G N L0 (mN G N L0 m)))))) (aw _))))) (aw _))) (aw _))) (aw _))) (aw _))))) (aw _))) λR H=> ?_
 delta xH;generalize mN G N L0 N=a;revert a;refine id ?_;intro a;kernel_rfl
def qJ(G:an)(N:Nat)(a:aa)(H:ad):O:=oQ G N N a H
def Hg(G:an)(N:Nat)(b:aa)(H:ad):bd Tryz.f182 G N (bO [b]) H=qJ G N b H:=by
 refine bR (A:=bd Tryz.f182 G N) ((bX ag ((cj (k:=λm R H=>oQ G N m (R 0) H) ag (λR H=>ag) (λm=>WS G N (oQ G N m)))))) ?_;delta qJ;generalize oQ G N N=a;revert a;refine id ?_;intro a;kernel_rfl
def T8(N:Nat){a:aa}{H:ad}{r:aa×ad}(h:qJ (aC P ax) N a H=D r):aC P ax 182 [a] H=D r:=
 cp ag Tryz.func182 ag ag ag ((Hg (aC P ax) N a H).trans h)
def mO(G:an)(N:Nat)(a:aa)(H:ad):O:=some (a,H)
def WY(G:an)(N:Nat):∀R H,aX P G N (j (j (j (bb Tryz.f183)))) (aR Tryz.f183) [] (aR Tryz.f183) R H=mO G N (R 3) H:=by
 refine bj (aw _) λR H=> ?_
 delta mO;kernel_rfl
def oS(G:an)(N:Nat)(L1:aa->aa->aa->ad->O)(a b x4:aa)(H:ad):O:=af (ar P .add 3 C x4 (J X 1)) λx8=>af (ar P .shr 251 C a (J .u64 1)) λx10=>L1 x10 b x8 H
def WZ(G:an)(N:Nat)(L1:aa->aa->aa->ad->O):∀R H,aX P G N (j (j (aE (aE (j (aE (j (j (bb Tryz.f183))))))))) (λR H=>L1 (R 0) (R 3) (R 4) H) [(0,(λR H=>mO G N (R 3) H))] (aR Tryz.f183) R H=oS G N L1 (R 0) (R 3) (R 4) H:=by
 refine bj (aw _) λR H=> ?_
 delta oS;kernel_rfl
def oR(G:an)(N:Nat)(L1:aa->aa->aa->ad->O)(a b x4:aa)(H:ad):O:=af (ar P .neq 251 C a (J .u64 0)) λx6=>aP (D x6) (af (ar P .and 251 C a (J .u64 1)) λx12=>af (ar P .eql 251 C x12 (J .u64 1)) λc=>aP (D c) (bx H (cv P (H).next 30 1 [(0,x4)]) λd ae=>aU ae (cS P ae [30,30] b d) λe ah=>oS G N L1 a e x4 ah) (oS G N L1 a b x4 H)) (mO G N b H)
def kB(G:an)(N:Nat):Nat->aa->aa->aa->ad->O
 |0,_,_,_,_=>I
 |n+1,a,b,x4,H=>oR G N (kB G N n) a b x4 H
def WW(G:an)(N:Nat)(L1:aa->aa->aa->ad->O):∀R H,aX P G N (aE (aE (j (aE (j (j (bb Tryz.f183))))))) (λR H=>L1 (R 0) (R 3) (R 4) H) [(0,(λR H=>mO G N (R 3) H))] (aR Tryz.f183) R H=oR G N L1 (R 0) (R 3) (R 4) H:=by
 refine bj ((aF ag ((aF ag (WZ G N L1) (aw _))) (aw _))) λR H=> ?_
 delta oR;generalize mO G N=a;generalize oS G N L1=b;revert a b;refine id ?_;intro a b;kernel_rfl
def qK(G:an)(N:Nat)(a:aa)(H:ad):O:=kB G N N a aa.aB (J X 0) H
def Hh(G:an)(N:Nat)(b:aa)(H:ad):bd Tryz.f183 G N (bO [b]) H=qK G N b H:=by
 refine bR (A:=bd Tryz.f183 G N) ((aF ag ((aF ag ((aF ag (WY G N) ((aF ag ((bX ag ((cj (k:=λm R H=>kB G N m (R 0) (R 3) (R 4) H) ag (λR H=>ag) (λm=>WW G N (kB G N m)))))) (aw _))))) (aw _))) (aw _))) ?_;delta qK;generalize kB G N N=a;revert a;refine id ?_;intro a;kernel_rfl
def T9(N:Nat){a:aa}{H:ad}{r:aa×ad}(h:qK (aC P ax) N a H=D r):aC P ax 183 [a] H=D r:=
 cp ag Tryz.func183 ag ag ag ((Hh (aC P ax) N a H).trans h)
def qL(G:an)(a x1 x2:aa)(H:ad):O:=af (cr a) λx8=>af (av P 248 x8 0) λh=>af (aj P H 3 h) λx10=>af (cr a) λb=>af (av P 248 b 1) λc=>af (aj P H 3 c) λd=>af (ar P .mul 3 Z x1 d) λe=>af (ar P .add 3 Z x10 e) λf=>af (ar P .add 3 Z f x2) λg=>D (g,H)
def Hi(G:an)(N:Nat)(a:aa)(x1:aa)(x2:aa)(H:ad):bd Tryz.f184 G N (bO [a,x1,x2]) H=qL G a x1 x2 H:=by
 refine bR (A:=bd Tryz.f184 G N) (aw _) ?_;delta qL;kernel_rfl
def T_(N:Nat){a x1 x2:aa}{H:ad}{r:aa×ad}(h:qL (aC P ax) a x1 x2 H=D r):aC P ax 184 [a,x1,x2] H=D r:=
 cp ag Tryz.func184 ag ag ag ((Hi (aC P ax) N a x1 x2 H).trans h)
def o0(G:an)(a x1 x2:aa)(H:ad):O:=af (cr a) λx7=>af (av P 248 x7 2) λx8=>af (aj P H 243 x8) λp=>af (a6 P 243 p x1) λx11=>af (aj P H 251 x11) λx12=>af (ar P .or 251 Z x12 x2) λc=>af (cr a) λd=>af (av P 248 d 2) λe=>af (aj P H 243 e) λf=>af (a6 P 243 f x1) λg=>af (aj P H 251 g) λh=>af (ar P .neq 251 Z c h) λi=>aP (D i) (af (cr a) λj=>af (av P 248 j 2) λk=>af (aj P H 243 k) λb=>af (a6 P 243 b x1) λl=>af (aj P H 251 l) λm=>af (ar P .or 251 Z m x2) λn=>af (a6 P 243 b x1) λo=>bY H (bA P H 251 o n) λae=>aU ae (G 181 [a,x1] ae) λq ah=>D (.tuple [],ah)) (D (.tuple [],H))
def Ht(G:an)(N:Nat)(a:aa)(x1:aa)(x2:aa)(H:ad):bd Tryz.f220 G N (bO [a,x1,x2]) H=o0 G a x1 x2 H:=by
 refine bR (A:=bd Tryz.f220 G N) (aw _) ?_;delta o0;kernel_rfl
def Uk(N:Nat){a x1 x2:aa}{H:ad}{r:aa×ad}(h:o0 (aC P ax) a x1 x2 H=D r):aC P ax 220 [a,x1,x2] H=D r:=
 cp ag Tryz.func220 ag ag ag ((Ht (aC P ax) N a x1 x2 H).trans h)
def mY(G:an)(b x1 x2:aa)(H:ad):O:=af (cr b) λx10=>af (av P 248 x10 6) λx11=>af (aj P H 245 x11) λx12=>af (c7 P 312 [(0,x1),(1,x2)]) λp=>af (hh P H 245 x12 p C) λn=>af (gC n 0) λq=>af (gC n 1) λg=>cA H [] λx6 ae=>bY ae (bA P ae 310 x6 q) λah=>ao g Z ah (bw x1) λr ak=>ao g Z ak (bw x2) λs au=>ao g Z au (aH (ar P .eql 3 Z r s)) λt d=>af (ba g (D (y C)) (D t)) λu=>aP (D u) (D (.tuple [],d)) (af (cr b) λv=>af (av P 248 v 6) λw=>af (aj P d 245 w) λx=>af (c7 P 312 [(0,x1),(1,x2)]) λz=>bY d (iN P d 245 x z (.agg [])) λa=>af (cr b) λB=>af (av P 248 B 3) λj=>af (aj P a 31 j) λk=>af (a6 P 31 k x1) λl=>af (aj P a 30 l) λm=>bx a (cv P (a).next 30 1 [(0,x2)]) λE c=>aU c (cS P c [30,30] m E) λK e=>af (cr b) λA=>af (av P 248 A 3) λh=>af (aj P e 31 h) λi=>af (a6 P 31 i x1) λL=>bY e (bA P e 30 L K) λf=>bif ((aV (aj P a 31 j) k&&(aV (aj P c 31 j) k&&C))&&((aV (aj P a 30 l) m&&(aV (aj P c 30 l) m&&C))&&((aV (aj P a 31 h) i&&(aV (aj P c 31 h) i&&(aV (aj P e 31 h) i&&C)))&&C)))then(af (cr b) λx52=>af (av P 248 x52 2) λM=>af (aj P f 243 M) λN=>af (a6 P 243 N x1) λQ=>af (aj P f 251 Q) λR=>aU f (G 220 [b,x2,R] f) λS o=>D (.tuple [],o))else I)
def Hu(G:an)(N:Nat)(a:aa)(x1:aa)(x2:aa)(H:ad):bd Tryz.f221 G N (bO [a,x1,x2]) H=mY G a x1 x2 H:=by
 refine bR (A:=bd Tryz.f221 G N) (aw _) ?_;delta mY;kernel_rfl
def Ul(N:Nat){a x1 x2:aa}{H:ad}{r:aa×ad}(h:mY (aC P ax) a x1 x2 H=D r):aC P ax 221 [a,x1,x2] H=D r:=
 cp ag Tryz.func221 ag ag ag ((Hu (aC P ax) N a x1 x2 H).trans h)
def o1(G:an)(N:Nat)(L0:aa->aa->aa->aa->aa->ad->O)(a x2:aa)(b c d:aa)(H:ad):O:=af (ar P .add 3 C d (J X 1)) λe=>L0 a x2 b c e H
def XF(G:an)(N:Nat)(L0:aa->aa->aa->aa->aa->ad->O):∀R H,aX P G N (j (j (j (aE (aE (j (bb Tryz.f225))))))) (λR H=>L0 (R 0) (R 2) (R 14) (R 15) (R 16) H) [(0,(aR Tryz.f225))] (aR Tryz.f225) R H=o1 G N L0 (R 0) (R 2) (R 14) (R 15) (R 16) H:=by
 refine bj (aw _) λR H=> ?_
 delta o1;kernel_rfl
def q2(G:an)(N:Nat)(L0:aa->aa->aa->aa->aa->ad->O)(a x2:aa)(c d b:aa)(H:ad):O:=af (ar P .lss 3 Z b d) λi=>aP (D i) (af (a6 P 284 c b) λj=>af (aj P H 286 j) λk=>cA H [J X 0,J X 0,J X 0] λx7 ae=>bY ae (bA P ae 286 x7 k) λah=>af (av P 286 x7 0) λl=>af (aj P ah 3 l) λm=>af (ar P .eql 3 C m (J X 3)) λn=>aP (D n) (af (av P 286 x7 2) λo=>af (aj P ah 3 o) λp=>aU ah (G 184 [a,x2,p] ah) λq ak=>af (av P 286 x7 1) λe=>af (aj P ak 3 e) λf=>aU ak (G 221 [a,q,f] ak) λu au=>bif ((aV (aj P ah 3 e) f&&(aV (aj P ak 3 e) f&&C))&&C)then(o1 G N L0 a x2 c d b au)else I) (af (av P 286 x7 2) λr=>af (aj P ah 3 r) λs=>aU ah (G 184 [a,x2,s] ah) λt ak=>af (av P 286 x7 1) λg=>af (aj P ak 3 g) λh=>aU ak (G 221 [a,h,t] ak) λv au=>bif ((aV (aj P ah 3 g) h&&(aV (aj P ak 3 g) h&&C))&&C)then(o1 G N L0 a x2 c d b au)else I)) (D (.tuple [],H))
def lu(G:an)(N:Nat):Nat->aa->aa->aa->aa->aa->ad->O
 |0,_,_,_,_,_,_=>I
 |n+1,a,x2,b,c,d,H=>q2 G N (lu G N n) a x2 b c d H
def XE(G:an)(N:Nat)(L0:aa->aa->aa->aa->aa->ad->O):∀R H,aX P G N (aE (aE (j (bb Tryz.f225)))) (λR H=>L0 (R 0) (R 2) (R 14) (R 15) (R 16) H) [(0,(aR Tryz.f225))] (aR Tryz.f225) R H=q2 G N L0 (R 0) (R 2) (R 14) (R 15) (R 16) H:=by
 refine bj ((aF ag ((aF ag ((aF ag (XF G N L0) (aw _))) (aw _))) (aw _))) λR H=> ?_
 delta q2;generalize o1 G N L0=a;revert a;refine id ?_;intro a;kernel_rfl
def q1(G:an)(N:Nat)(a x1 x2:aa)(H:ad):O:=af (cr a) λe=>af (av P 248 e 4) λx10=>af (aj P H 244 x10) λx11=>af (a6 P 244 x11 x1) λc=>af (aj P H 284 c) λb=>bf P .len [284] [b] H λd=>lu G N N a x2 b d (J X 0) H
def Hy(G:an)(N:Nat)(b:aa)(x1:aa)(x2:aa)(H:ad):bd Tryz.f225 G N (bO [b,x1,x2]) H=q1 G N b x1 x2 H:=by
 refine bR (A:=bd Tryz.f225 G N) ((aF ag ((bX ag ((cj (k:=λm R H=>lu G N m (R 0) (R 2) (R 14) (R 15) (R 16) H) ag (λR H=>ag) (λm=>XE G N (lu G N m)))))) (aw _))) ?_;delta q1;generalize lu G N N=a;revert a;refine id ?_;intro a;kernel_rfl
def Uo(N:Nat){a x1 x2:aa}{H:ad}{r:aa×ad}(h:q1 (aC P ax) N a x1 x2 H=D r):aC P ax 225 [a,x1,x2] H=D r:=
 cp ag Tryz.func225 ag ag ag ((Hy (aC P ax) N a x1 x2 H).trans h)
def qZ(G:an)(a x1:aa)(H:ad):O:=hE G H a "Push" [x1] λx6 ae=>hE G ae a "Len" [] λb ah=>af (ar P .sub 3 C b (J X 1)) λx10=>aU ah (G 250 [a,x10] ah) λx11 ak=>D (.tuple [],ak)
def Hv(G:an)(N:Nat)(a:aa)(x1:aa)(H:ad):bd Tryz.f222 G N (bO [a,x1]) H=qZ G a x1 H:=by
 refine bR (A:=bd Tryz.f222 G N) (aw _) ?_;delta qZ;kernel_rfl
def Um(N:Nat){a x1:aa}{H:ad}{r:aa×ad}(h:qZ (aC P ax) a x1 H=D r):aC P ax 222 [a,x1] H=D r:=
 cp ag Tryz.func222 ag ag ag ((Hv (aC P ax) N a x1 H).trans h)
def mZ(G:an)(a:aa)(H:ad):O:=bf P .len [246] [a] H λx4=>D (x4,H)
def Hw(G:an)(N:Nat)(a:aa)(H:ad):bd Tryz.f223 G N (bO [a]) H=mZ G a H:=by
 refine bR (A:=bd Tryz.f223 G N) (aw _) ?_;delta mZ;kernel_rfl
def AU(N:Nat){a:aa}{H:ad}{r:aa×ad}(h:mZ (aC P ax) a H=D r):aC P ax 223 [a] H=D r:=
 cp ag Tryz.func223 ag ag ag ((Hw (aC P ax) N a H).trans h)
def q0(G:an)(a:aa)(H:ad):O:=hE G H a "Len" [] λx5 ae=>af (ar P .sub 3 C x5 (J X 1)) λx6=>hE G ae a "Swap" [J X 0,x6] λc ah=>aU ah (G 251 [a,J X 0,x6] ah) λx12 ak=>hE G ak a "Pop" [] λb au=>D (b,au)
def Hx(G:an)(N:Nat)(a:aa)(H:ad):bd Tryz.f224 G N (bO [a]) H=q0 G a H:=by
 refine bR (A:=bd Tryz.f224 G N) (aw _) ?_;delta q0;kernel_rfl
def Un(N:Nat){a:aa}{H:ad}{r:aa×ad}(h:q0 (aC P ax) a H=D r):aC P ax 224 [a] H=D r:=
 cp ag Tryz.func224 ag ag ag ((Hx (aC P ax) N a H).trans h)
def uL(G:an)(N:Nat)(L0:aa->aa->ad->O)(a x1:aa)(H:ad):O:=af (ar P .sub 3 C x1 (J X 1)) λx6=>af (ar P .quo 3 C x6 (J X 2)) λx7=>af (ar P .eql 3 Z x7 x1) λx10=>ao x10 Z H (bw a) λx12 ae=>ao x10 Z ae (bw x1) λd ah=>ao x10 Z ah (bw x7) λe ak=>ao x10 Z ak (λq=>(hN P ak x12 "Less" [d,e]).bind λp=>b9 ak (G p.1 p.2 ak) q) λf au=>ao x10 Z au (aH (dg .not f)) λg b=>af (ba x10 (D (y C)) (D g)) λh=>aP (D h) (D (.tuple [],b)) (hE G b a "Swap" [x7,x1] λi c=>L0 a x7 c)
def na(G:an)(N:Nat):Nat->aa->aa->ad->O
 |0,_,_,_=>I
 |n+1,a,x1,H=>uL G N (na G N n) a x1 H
def X8(G:an)(N:Nat)(L0:aa->aa->ad->O):∀R H,aX P G N (aE (aE (bb Tryz.f250))) (λR H=>L0 (R 0) (R 1) H) [(0,(aR Tryz.f250))] (aR Tryz.f250) R H=uL G N L0 (R 0) (R 1) H:=by
 refine bj (aw _) λR H=> ?_
 delta uL;kernel_rfl
def rl(G:an)(N:Nat)(a x1:aa)(H:ad):O:=na G N N a x1 H
def HN(G:an)(N:Nat)(b:aa)(x1:aa)(H:ad):bd Tryz.f250 G N (bO [b,x1]) H=rl G N b x1 H:=by
 refine bR (A:=bd Tryz.f250 G N) ((bX ag ((cj (k:=λm R H=>na G N m (R 0) (R 1) H) ag (λR H=>ag) (λm=>X8 G N (na G N m)))))) ?_;delta rl;generalize na G N N=a;revert a;refine id ?_;intro a;kernel_rfl
def UD(N:Nat){a x1:aa}{H:ad}{r:aa×ad}(h:rl (aC P ax) N a x1 H=D r):aC P ax 250 [a,x1] H=D r:=
 cp ag Tryz.func250 ag ag ag ((HN (aC P ax) N a x1 H).trans h)
def kH(G:an)(N:Nat)(x1 x7:aa)(H:ad):O:=af (ar P .gtr 3 Z x7 x1) λa=>D (a,H)
def X_(G:an)(N:Nat):∀R H,aX P G N (j (j (j (bb Tryz.f251)))) (aR Tryz.f251) [] (aR Tryz.f251) R H=kH G N (R 1) (R 7) H:=by
 refine bj (aw _) λR H=> ?_
 delta kH;kernel_rfl
def o4(G:an)(N:Nat)(L1:aa->aa->aa->aa->ad->O)(a x1:aa)(x2 x7 b:aa)(H:ad):O:=hE G H a "Less" [b,x7] λc ae=>af (dg .not c) λd=>aP (D d) (kH G N x1 x7 ae) (hE G ae a "Swap" [x7,b] λe ah=>L1 a x1 x2 b ah)
def Ya(G:an)(N:Nat)(L1:aa->aa->aa->aa->ad->O):∀R H,aX P G N (j (j (j (j (aE (aE (aE (aE (j (j (bb Tryz.f251))))))))))) (λR H=>L1 (R 0) (R 1) (R 2) (R 7) H) [(1,(λR H=>L1 (R 0) (R 1) (R 2) (R 7) H)),(0,(λR H=>kH G N (R 1) (R 7) H))] (aR Tryz.f251) R H=o4 G N L1 (R 0) (R 1) (R 2) (R 7) (R 9) H:=by
 refine bj (aw _) λR H=> ?_
 delta o4;generalize kH G N=a;revert a;refine id ?_;intro a;kernel_rfl
def rn(G:an)(N:Nat)(L1:aa->aa->aa->aa->ad->O)(d x1:aa)(x2 x7:aa)(H:ad):O:=af (ar P .mul 3 C (J X 2) x7) λh=>af (ar P .add 3 C h (J X 1)) λa=>af (ar P .geq 3 Z a x2) λe=>ao e Z H (bw a) λi ae=>ao e Z ae (aH (ar P .lss 3 C i (J X 0))) λj ah=>af (ba e (D (y C)) (D j)) λk=>aP (D k) (kH G N x1 x7 ah) (af (ar P .add 3 C a (J X 1)) λf=>af (ar P .lss 3 Z f x2) λb=>ao b C ah (bw d) λl ak=>ao b C ak (bw f) λm au=>ao b C au (bw a) λn c=>ao b C c (λq=>(hN P c l "Less" [m,n]).bind λp=>b9 c (G p.1 p.2 c) q) λo g=>af (ba b (D o) (D (y Z))) λr=>aP (D r) (o4 G N L1 d x1 x2 x7 f g) (o4 G N L1 d x1 x2 x7 a g))
def kI(G:an)(N:Nat):Nat->aa->aa->aa->aa->ad->O
 |0,_,_,_,_,_=>I
 |n+1,a,x1,x2,x7,H=>rn G N (kI G N n) a x1 x2 x7 H
def X9(G:an)(N:Nat)(L1:aa->aa->aa->aa->ad->O):∀R H,aX P G N (aE (aE (aE (j (j (bb Tryz.f251)))))) (λR H=>L1 (R 0) (R 1) (R 2) (R 7) H) [(0,(λR H=>kH G N (R 1) (R 7) H))] (aR Tryz.f251) R H=rn G N L1 (R 0) (R 1) (R 2) (R 7) H:=by
 refine bj ((bX ag ((aF ag ((aF ag ((aF ag ((aF ag (Ya G N L1) (aw _))) (aw _))) (aw _))) (aw _))))) λR H=> ?_
 delta rn;generalize o4 G N L1=a;generalize kH G N=b;revert a b;refine id ?_;intro a b;kernel_rfl
def rm(G:an)(N:Nat)(a x1 x2:aa)(H:ad):O:=kI G N N a x1 x2 x1 H
def HO(G:an)(N:Nat)(b:aa)(x1:aa)(x2:aa)(H:ad):bd Tryz.f251 G N (bO [b,x1,x2]) H=rm G N b x1 x2 H:=by
 refine bR (A:=bd Tryz.f251 G N) ((aF ag ((aF ag ((aF ag (X_ G N) ((bX ag ((cj (k:=λm R H=>kI G N m (R 0) (R 1) (R 2) (R 7) H) ag (λR H=>ag) (λm=>X9 G N (kI G N m)))))))) (aw _))) (aw _))) ?_;delta rm;generalize kI G N N=a;revert a;refine id ?_;intro a;kernel_rfl
def UE(N:Nat){a x1 x2:aa}{H:ad}{r:aa×ad}(h:rm (aC P ax) N a x1 x2 H=D r):aC P ax 251 [a,x1,x2] H=D r:=
 cp ag Tryz.func251 ag ag ag ((HO (aC P ax) N a x1 x2 H).trans h)
def rz(G:an)(a x1 x2:aa)(H:ad):O:=af (a6 P 246 a x1) λe=>af (aj P H 3 e) λx10=>af (a6 P 246 a x2) λb=>af (aj P H 3 b) λc=>af (ar P .lss 3 Z x10 c) λd=>D (d,H)
def HV(G:an)(N:Nat)(a:aa)(x1:aa)(x2:aa)(H:ad):bd Tryz.f281 G N (bO [a,x1,x2]) H=rz G a x1 x2 H:=by
 refine bR (A:=bd Tryz.f281 G N) (aw _) ?_;delta rz;kernel_rfl
def UL(N:Nat){a x1 x2:aa}{H:ad}{r:aa×ad}(h:rz (aC P ax) a x1 x2 H=D r):aC P ax 281 [a,x1,x2] H=D r:=
 cp ag Tryz.func281 ag ag ag ((HV (aC P ax) N a x1 x2 H).trans h)
def rA(G:an)(a x1 x2:aa)(H:ad):O:=af (a6 P 246 a x2) λx12=>af (aj P H 3 x12) λb=>af (a6 P 246 a x1) λc=>af (aj P H 3 c) λd=>af (a6 P 246 a x1) λe=>bY H (bA P H 3 e b) λae=>af (a6 P 246 a x2) λf=>bY ae (bA P ae 3 f d) λah=>D (.tuple [],ah)
def HW(G:an)(N:Nat)(a:aa)(x1:aa)(x2:aa)(H:ad):bd Tryz.f282 G N (bO [a,x1,x2]) H=rA G a x1 x2 H:=by
 refine bR (A:=bd Tryz.f282 G N) (aw _) ?_;delta rA;kernel_rfl
def UM(N:Nat){a x1 x2:aa}{H:ad}{r:aa×ad}(h:rA (aC P ax) a x1 x2 H=D r):aC P ax 282 [a,x1,x2] H=D r:=
 cp ag Tryz.func282 ag ag ag ((HW (aC P ax) N a x1 x2 H).trans h)
def rB(G:an)(a:aa)(H:ad):O:=af (cr a) λx6=>af (aj P H 246 x6) λx7=>bf P .len [246] [x7] H λx10=>af (ar P .sub 3 C x10 (J X 1)) λx11=>af (a6 P 246 x7 x11) λx12=>af (aj P H 3 x12) λb=>bf P .len [246] [x7] H λc=>af (ar P .sub 3 C c (J X 1)) λd=>af (fX P 246 x7 I (D d) I) λe=>af (cr a) λf=>bY H (bA P H 246 f e) λae=>af (ih P 3 b) λg=>D (g,ae)
def HX(G:an)(N:Nat)(a:aa)(H:ad):bd Tryz.f283 G N (bO [a]) H=rB G a H:=by
 refine bR (A:=bd Tryz.f283 G N) (aw _) ?_;delta rB;kernel_rfl
def UN(N:Nat){a:aa}{H:ad}{r:aa×ad}(h:rB (aC P ax) a H=D r):aC P ax 283 [a] H=D r:=
 cp ag Tryz.func283 ag ag ag ((HX (aC P ax) N a H).trans h)
def rC(G:an)(a x1:aa)(H:ad):O:=af (cr a) λx6=>af (aj P H 246 x6) λx7=>af (nR P 3 Z x1) λb=>bx H (cv P (H).next 246 1 [(0,b)]) λx10 ae=>aU ae (cS P ae [246,246] x7 x10) λx11 ah=>af (cr a) λx12=>bY ah (bA P ah 246 x12 x11) λak=>bif ((aV (aj P H 246 x6) x7&&(aV (aj P ae 246 x6) x7&&C))&&C)then(D (.tuple [],ak))else I
def HY(G:an)(N:Nat)(a:aa)(x1:aa)(H:ad):bd Tryz.f284 G N (bO [a,x1]) H=rC G a x1 H:=by
 refine bR (A:=bd Tryz.f284 G N) (aw _) ?_;delta rC;kernel_rfl
def UO(N:Nat){a x1:aa}{H:ad}{r:aa×ad}(h:rC (aC P ax) a x1 H=D r):aC P ax 284 [a,x1] H=D r:=
 cp ag Tryz.func284 ag ag ag ((HY (aC P ax) N a x1 H).trans h)
end
end
end Go.Proofs.YtmhhnnklfcbgfaaGreat
namespace Go.bp
open Go.bo
open Go.bo
open Go.bo
open Go.bo
structure Ask where
 eO:Bool
 o:Nat
 f:Nat
structure bI where
 am:List Nat
 fh:List (List Nat)
 asks:List (List Ask)
 seen:List Nat
 work:List Nat
 waits:List Bool
def bI.a(S:bI)(v:Nat):Nat:=S.am.getD v 0
def bI.g(S:bI)(v:Nat):List Nat:=S.fh.getD v []
def bI.q(S:bI)(v:Nat):List Ask:=S.asks.getD v []
def bI.s(S:bI)(v:Nat):Nat:=S.seen.getD v 0
def bI.w(S:bI)(v:Nat):Bool:=S.waits.getD v Z
def gR(S:bI)(v:Nat):bI:=if S.w v then S else {S with waits:=S.waits.set v C,work:=v::S.work}
def eS(S:bI)(v x:Nat):bI:=if S.a v|||x=S.a v then S else gR {S with am:=S.am.set v (S.a v|||x)} v
def gp(S:bI)(a b:Nat):bI:=if b∈S.g a\/a=b then S else eS {S with fh:=S.fh.set a (S.g a++[b])} b (S.a a)
def c5(n t f:Nat):Nat:=n+t*8+f
def iQ(S:bI)(v:Nat)(q:Ask):bI:={S with asks:=S.asks.set v (S.q v++[q])}
def j4(n:Nat)(S:bI)(a b:Nat):List Nat->bI
 |[]=>S
 |f::fs=>j4 n (gp (gp S (c5 n a f) (c5 n b f)) (c5 n b f) (c5 n a f)) a b fs
def pG(n:Nat)(S:bI):bz->bI
 | .base a b=>eS S a (1<<<b)
 | .copy a b=>gp S b a
 | .load a b f=>iQ S b ⟨C,a,f⟩
 | .store a b f=>iQ S a ⟨Z,b,f⟩
 | .same a b=>j4 n S a b (List.range 8)
def pH(n:Nat):List bz->bI->bI
 |[],S=>S
 |c::cs,S=>pH n cs (pG n S c)
def k0(n t:Nat)(S:bI)(q:Ask):bI:=if q.eO then gp S (c5 n t q.f) q.o else gp S q.o (c5 n t q.f)
def iP(n t:Nat):List Ask->bI->bI
 |[],S=>S
 |q::qs,S=>iP n t qs (k0 n t S q)
def nH(n v:Nat):List Nat->bI->bI
 |[],S=>S
 |t::ts,S=>nH n v ts (iP n t (S.q v) S)
def jG(v:Nat):List Nat->bI->bI
 |[],S=>S
 |b::bs,S=>jG v bs (eS S b (S.a v))
def bits(x:Nat):List Nat:=(List.range 64).filter (x.testBit ·)
def h7(S:bI)(v:Nat):bI:={S with work:=S.work.erase v,waits:=S.waits.set v Z}
def j5(S:bI)(v:Nat):bI:={S with seen:=S.seen.set v (S.s v|||S.a v)}
def ir(S:bI)(v:Nat):List Nat:=(List.range 64).filter λt=>(S.a v).testBit t&& !(S.s v).testBit t
def l5(n:Nat)(S:bI)(v:Nat):bI:=nH n v (ir S v) (j5 (h7 S v) v)
def yr(n:Nat)(S:bI)(v:Nat):bI:=jG v ((l5 n S v).g v) (l5 n S v)
def eX(V:Nat):bI:=⟨List.replicate V 0,List.replicate V [],List.replicate V [],List.replicate V 0,[],List.replicate V Z⟩
def jH{α:Type}{l:List α}{i j:Nat}{x d:α}(h:i<l.length):(l.set i x).getD j d=if j=i then x else l.getD j d:=by
 rw[List.getD_eq_getElem?_getD,List.getD_eq_getElem?_getD,List.getElem?_set];by_cases e:i=j
 ·subst e;simp[h]
 ·simp[e,Ne.symm e]
def iW{α:Type}{n i:Nat}{x:α}:(List.replicate n x).getD i x=x:=by
 rw[List.getD_eq_getElem?_getD,List.getElem?_replicate];split<;>rfl
def iu(l:List Nat):Nat:=(l.map λx=>64-(bits x).length).sum
def K9(x:Nat):(bits x).length<=64:=Nat.le_trans (List.length_filter_le _ _) (by simp)
def filter_lt{α:Type}{p q:α->Bool}:∀{l:List α},(∀a∈l,p a=C->q a=C)->(∃a∈l,q a=C/\p a=Z)->(l.filter p).length<(l.filter q).length
 |[],_,h=>by obtain⟨a,h,_⟩:=h;simp at h
 |b::l,ae,ah=>by
  have hle:∀{l:List α},(∀a∈l,p a=C->q a=C)->(l.filter p).length<=(l.filter q).length:=by
   intro l
   induction l with
   |nil=>intro _;simp
   |cons c l g=>
    intro h;have:=g λa d=>h a (by simp[d])
    have aA:=h c (by simp);cases e:p c with
    |true=>rw[List.filter_cons_of_pos e,List.filter_cons_of_pos (aA e)];simp only[List.length_cons];omega
    |false=>
     rw[List.filter_cons_of_neg (by simp[e])];cases a8:q c with
     |true=>rw[List.filter_cons_of_pos a8];simp only[List.length_cons];omega
     |false=>rw[List.filter_cons_of_neg (by simp[a8])];exact this
  have i:∀a∈l,p a=C->q a=true:=λa d=>ae a (by simp[d])
  obtain⟨a,d,a8,e⟩:=ah;rcases List.mem_cons.1 d with rfl|d
  ·rw[List.filter_cons_of_neg (by simp[e]),List.filter_cons_of_pos a8];have:=hle i;simp only[List.length_cons];omega
  ·have g:=filter_lt i ⟨a,d,a8,e⟩;have k:=ae b (by simp);cases f:p b with
   |true=>rw[List.filter_cons_of_pos f,List.filter_cons_of_pos (k f)];simp only[List.length_cons];omega
   |false=>
    rw[List.filter_cons_of_neg (by simp[f])];cases j:q b with
    |true=>rw[List.filter_cons_of_pos j];simp only[List.length_cons];omega
    |false=>rw[List.filter_cons_of_neg (by simp[j])];exact g
def K_{x y:Nat}(e:y<2^64)(aD:x<2^64)(h:x|||y≠x):(bits x).length<(bits (x|||y)).length:=by
 unfold bits;refine filter_lt (λa _ c=>by rw[Nat.testBit_or,c];rfl) ?_;apply Classical.byContradiction;intro aS;apply h;apply Nat.eq_of_testBit_eq;intro i;by_cases d:i<64
 ·cases b:x.testBit i with
  |true=>rw[Nat.testBit_or,b];rfl
  |false=>
   cases f:(x|||y).testBit i with
   |false=>rfl
   |true=>exact absurd ⟨i,by simpa using d,f,b⟩ aS
 ·have ae:x<2^i:=Nat.lt_of_lt_of_le aD (Nat.pow_le_pow_right (by omega) (by omega));have ah:y<2^i:=Nat.lt_of_lt_of_le e (Nat.pow_le_pow_right (by omega) (by omega));rw[Nat.testBit_or,Nat.testBit_lt_two_pow ae,Nat.testBit_lt_two_pow ah];rfl
def D6:∀{l:List Nat} {v x:Nat},v<l.length->(bits (l.getD v 0)).length<(bits x).length->iu (l.set v x)+1<=iu l
 |[],_,_,h,_=>by simp at h
 |a::l,0,x,_,h=>by
  have ca:(bits a).length<(bits x).length:=h;have:=K9 x;simp only[iu,List.set_cons_zero,List.map_cons,List.sum_cons];omega
 |a::l,v+1,x,b,h=>by
  have c:=D6 (l:=l) (v:=v) (x:=x) (by simpa using b) (by simpa using h);simp only[iu,List.set_cons_succ,List.map_cons,List.sum_cons]at c ⊢;omega
def bI.M(S:bI):Nat:=2*iu S.am+S.work.length
structure dD(n m:Nat)(l:List bz)(zX:Nat->Prop)(Y:Nat->Nat->Prop)(S:bI):Prop where
 dc:S.am.length=n+m*8
 aW:S.fh.length=n+m*8
 fC:S.asks.length=n+m*8
 ls:S.seen.length=n+m*8
 lw:S.waits.length=n+m*8
 dY:∀v,S.a v<2^64
 jI:∀v,∀b∈S.g v,b<n+m*8
 iJ:∀v∈S.work,v<n+m*8
 cn:S.work.Nodup
 sound:∀v s,(S.a v).testBit s=true->df n l v s
 gs:∀a,∀b∈S.g a,∀s,df n l a s->df n l b s
 qs:∀v,∀q∈S.q v,(q.eO=true/\bz.load q.o v q.f∈l)\/(q.eO=false/\bz.store v q.o q.f∈l)
 sle:∀v s,(S.s v).testBit s=true->(S.a v).testBit s=true
 wt:∀v,S.w v=true↔v∈S.work
 kZ:∀v t,(S.s v).testBit t=true->¬Y v t->∀q∈S.q v,(if q.eO then q.o=c5 n t q.f\/q.o∈S.g (c5 n t q.f)else c5 n t q.f=q.o\/c5 n t q.f∈S.g q.o)
 fe:∀v,¬zX v->S.w v=false->(∀b∈S.g v,∀s,(S.a v).testBit s=true->(S.a b).testBit s=true)/\S.s v=S.a v
structure hb(S c:bI):Prop where
 a:∀v s,(S.a v).testBit s=true->(c.a v).testBit s=true
 g:∀v,∀b∈S.g v,b∈c.g v
 q:∀v,c.q v=S.q v
 s:∀v,c.s v=S.s v
 m:c.M<=S.M
def hb.refl(S:bI):hb S S:=⟨λ_ _ h=>h,λ_ _ h=>h,λ_=>rfl,λ_=>rfl,b4 _⟩
def hb.trans{S c d:bI}(h:hb S c)(k:hb c d):hb S d:=⟨λv s x=>k.a v s (h.a v s x),λv b x=>k.g v b (h.g v b x),λv=>(k.q v).trans (h.q v),λv=>(k.s v).trans (h.s v),Nat.le_trans k.m h.m⟩
section
variable {n m:Nat}{l:List bz}{zX:Nat->Prop}{Y:Nat->Nat->Prop}{S:bI}
def dD.gR(h:dD n m l zX Y S){v:Nat}(b:v<n+m*8):dD n m l zX Y (gR S v):=by
 unfold Go.bp.gR;cases hw:S.w v with
 |true=>simpa [hw]using h
 |false=>
  have d:v<S.waits.length:=by rw[h.lw];exact b
  have c:∀u,({S with waits:=S.waits.set v C,work:=v::S.work}:bI).w u=if u=v then C else S.w u:=λu=>jH d
  have aS:v∉S.work:=λhm=>by rw[(h.wt v).2 hm]at hw;cases hw
  simp only[Bool.false_eq_true,if_false];refine⟨h.dc,h.aW,h.fC,h.ls,by simpa using h.lw,h.dY,h.jI,?_,List.nodup_cons.2 ⟨aS,h.cn⟩,h.sound,h.gs,h.qs,h.sle,?_,h.kZ,?_⟩
  ·intro u hu;rcases List.mem_cons.1 hu with rfl|hu
   ·exact b
   ·exact h.iJ u hu
  ·intro u;rw[c,List.mem_cons];split
   ·rename_i e;simp[e]
   ·rename_i e;rw[h.wt];simp[e]
  ·intro u hu a;rw[c]at a;split at a
   ·cases a
   ·exact h.fe u hu a
def dD.eS(h:dD n m l zX Y S){v x:Nat}(B:v<n+m*8)(aD:x<2^64)(ad:∀s,x.testBit s=C->df n l v s):dD n m l zX Y (eS S v x)/\hb S (eS S v x)/\(∀s,x.testBit s=C->((eS S v x).a v).testBit s=C)/\(∀u,u≠v->(eS S v x).a u=S.a u)/\(eS S v x).fh=S.fh/\(∀u,u≠v->(eS S v x).w u=S.w u)/\(∀u,(S.w u=Z->S.s u=S.a u)->(eS S v x).w u=Z->(eS S v x).s u=(eS S v x).a u):=by
 unfold Go.bp.eS;by_cases e:S.a v|||x=S.a v
 ·rw[if_pos e];refine⟨h,.refl S,λs c=> ?_,λ_ _=>rfl,rfl,λ_ _=>rfl,λ_ q=>q⟩;rw[<-e,Nat.testBit_or,c,Bool.or_true]
 ·rw[if_neg e];have N:v<S.am.length:=by rw[h.dc];exact B
  have aa:v<S.waits.length:=by rw[h.lw];exact B
  have i:∀u,(({S with am:=S.am.set v (S.a v|||x)}:bI)).a u=if u=v then S.a v|||x else S.a u:=λu=>jH N
  have z:∀u s,(S.a u).testBit s=C->((({S with am:=S.am.set v (S.a v|||x)}:bI)).a u).testBit s=true:=by
   intro u s c;rw[i];split
   ·rename_i e;subst e;rw[Nat.testBit_or,c,Bool.true_or]
   ·exact c
  have L:=h.dY v;have ab:S.a v|||x<2^64:=Nat.or_lt_two_pow L aD;have ag:iu (S.am.set v (S.a v|||x))+1<=iu S.am:=D6 N (K_ aD L e);unfold Go.bp.gR;have ae:(({S with am:=S.am.set v (S.a v|||x)}:bI)).w v=S.w v:=rfl;rw[ae];have common:∀d:bI,d.am=S.am.set v (S.a v|||x)->d.fh=S.fh->d.asks=S.asks->d.seen=S.seen->d.waits.length=S.waits.length->(∀u∈d.work,u<n+m*8)->d.work.Nodup->(∀u,d.w u=C↔u∈d.work)->(∀u,d.w u=if u=v then C else S.w u)->dD n m l zX Y d:=by
   intro d E G H K Q R T U V;have o:∀u,d.a u=if u=v then S.a v|||x else S.a u:=λu=>by rw[<-i];show d.am.getD u 0=(S.am.set v (S.a v|||x)).getD u 0;rw[E]
   have p:∀u,d.g u=S.g u:=λu=>by unfold bI.g;rw[G]
   have O:∀u,d.q u=S.q u:=λu=>by unfold bI.q;rw[H]
   have A:∀u,d.s u=S.s u:=λu=>by unfold bI.s;rw[K]
   have M:∀u s,(S.a u).testBit s=C->(d.a u).testBit s=true:=λu s q=>by
    have:=z u s q;rw[i]at this;rw[o];exact this
   refine⟨by rw[E];simpa using h.dc,by rw[G];exact h.aW,by rw[H];exact h.fC,by rw[K];exact h.ls,by rw[Q];exact h.lw,?_,?_,R,T,?_,?_,?_,?_,U,?_,?_⟩
   ·intro u;rw[o];split
    ·exact ab
    ·exact h.dY u
   ·intro u b f;rw[p]at f;exact h.jI u b f
   ·intro u s c;rw[o]at c;split at c
    ·rename_i W;subst W;rw[Nat.testBit_or,Bool.or_eq_true]at c;rcases c with c|c
     ·exact h.sound u s c
     ·exact ad s c
    ·exact h.sound u s c
   ·intro u b f;rw[p]at f;exact h.gs u b f
   ·intro u q a8;rw[O]at a8;exact h.qs u q a8
   ·intro u s c;rw[A]at c;exact M u s (h.sle u s c)
   ·intro u t P af q a8;rw[A]at P;rw[O]at a8;simp only[p];exact h.kZ u t P af q a8
   ·intro u hu j;rw[V]at j;split at j
    ·cases j
    ·rename_i ne;obtain⟨f1,f2⟩:=h.fe u hu j;rw[A,o,if_neg ne,p];exact⟨λb f s c=>M b s (f1 b f s c),f2⟩
  cases hw:S.w v with
  |true=>
   rw[if_pos rfl];refine⟨common _ rfl rfl rfl rfl rfl h.iJ h.cn h.wt λu=> ?_,⟨z,λ_ _ f=>f,λ_=>rfl,λ_=>rfl,?_⟩,λs c=> ?_,λu hu=> ?_,rfl,λ_ _=>rfl,λu q j=> ?_⟩
   ·show S.w u=_;split
    ·rename_i e;rw[e];exact hw
    ·rfl
   ·show 2*iu (S.am.set v (S.a v|||x))+S.work.length<=2*iu S.am+S.work.length;omega
   ·rw[i,if_pos rfl,Nat.testBit_or,c,Bool.or_true]
   ·rw[i,if_neg hu]
   ·have k:S.w u=false:=j;by_cases e:u=v
    ·subst e;rw[hw]at k;cases k
    ·rw[i,if_neg e];exact q k
  |false=>
   rw[if_neg (by simp)];have aS:v∉S.work:=λhm=>by rw[(h.wt v).2 hm]at hw;cases hw
   have r:∀u,((S.waits.set v C).getD u Z)=if u=v then C else S.w u:=λu=>jH aa
   refine⟨common _ rfl rfl rfl rfl (by simp) ?_ (List.nodup_cons.2 ⟨aS,h.cn⟩) ?_ r,⟨z,λ_ _ f=>f,λ_=>rfl,λ_=>rfl,?_⟩,λs c=> ?_,λu hu=> ?_,rfl,λu hu=> ?_,λu q j=> ?_⟩
   ·intro u hu;rcases List.mem_cons.1 hu with rfl|hu
    ·exact B
    ·exact h.iJ u hu
   ·intro u;show(S.waits.set v C).getD u Z=C↔u∈v::S.work;rw[r,List.mem_cons];split
    ·rename_i e;simp[e]
    ·rename_i e;rw[h.wt];simp[e]
   ·show 2*iu (S.am.set v (S.a v|||x))+(v::S.work).length<=2*iu S.am+S.work.length;simp only[List.length_cons];omega
   ·show(bI.a {S with am:=S.am.set v (S.a v|||x)} v).testBit s=C;rw[i,if_pos rfl,Nat.testBit_or,c,Bool.or_true]
   ·show bI.a {S with am:=S.am.set v (S.a v|||x)} u=_;rw[i,if_neg hu]
   ·show(S.waits.set v C).getD u Z=_;rw[r,if_neg hu]
   ·have k:(S.waits.set v C).getD u Z=false:=j;rw[r]at k;split at k
    ·cases k
    ·rename_i e;show S.s u=bI.a {S with am:=S.am.set v (S.a v|||x)} u;rw[i,if_neg e];exact q k
