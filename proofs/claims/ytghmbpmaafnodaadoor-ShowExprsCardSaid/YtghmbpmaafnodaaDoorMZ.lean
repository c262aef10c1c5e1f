/-
  Texts of one proof, laid together: ShLc Ke.
-/
import Derived.Test.YtghmbpmaafnodaaDoorMU
set_option linter.unusedVariables false
set_option linter.unusedSimpArgs false
set_option linter.defProp false
open Option renaming some→D
open Bool renaming true→X,false→U
open Go.bs.aa renaming int→I,str→Z,bool→Y
open Go.IntKind renaming i64→J
namespace Go.Proofs.YtghmbpmaafnodaaDoor
open Go.bs
open Nat (reduceAdd reduceLeDiff)
section
set_option maxRecDepth 100000
noncomputable section
def kk(G:az)(ag:aa)(H:ad):O:=aJ H (G 14 [ag] H) λbC an=>j (d_ bC 0) λaI=>j (d_ bC 1) λaK=>cn an [I J 0,I J 0] λae K=>a8 K (aU P K 29 ae aK) λQ=>bh P .len [9] [ag] Q λaL=>j (aq P .gtr 3 X aL (I J 2000)) λk=>aN k U Q (bu (aH P 29 ae 0)) λaM T=>aN k U T (qr (ak P T 27 aM)) λaO aE=>aN k U aE (bu (aq P .neq 27 X aO (I J 0))) λaP v=>j (cu k (D (Y X)) (D aP)) λaQ=>aX (D aQ) (D ((Y X),v)) (aJ v (G 15 [aI,I J 0,I J 0] v) λx aF=>j (d_ x 0) λaR=>j (d_ x 1) λbt=>j (d_ x 2) λaS=>cn aF [I J 0,I J 0,Z [],Z [],I J 0,aa.ar,I J 0,I J 0,I J 0,I J 0,I J 0] λh aG=>cn aG [I J 0,I J 0] λaj V=>a8 V (aU P V 45 h aR) λA=>a8 A (aU P A 29 aj aS) λa=>j (aH P 29 aj 0) λaT=>j (ak P a 27 aT) λaV=>j (aq P .neq 27 X aV (I J 0)) λaW=>aX (D aW) (aJ a (G 12 [] a) λaY i=>D (aY,i)) (j (ak P a 45 h) λaZ=>aJ a (G 16 [aZ] a) λy i=>aJ i (G 14 [y] i) λaf ao=>j (d_ af 0) λah=>j (d_ af 1) λa0=>cn ao [I J 0,I J 0] λw B=>a8 B (aU P B 29 w a0) λc=>j (aH P 29 w 0) λa1=>j (ak P c 27 a1) λa2=>j (aq P .eql 27 X a2 (I J 4)) λa3=>aX (D a3) (j (ak P c 45 h) λa4=>aJ c (G 17 [a4] c) λa5 e=>j (aq P .eql 9 U y a5) λai=>aN ai X e (λq=>eI e (G 12 [] e) q) λa6 o=>j (cu ai (D a6) (D (Y U))) λa7=>D (a7,o)) (aJ c (G 15 [ah,I J 0,I J 0] c) λz e=>j (d_ z 0) λa9=>j (d_ z 1) λa_=>j (d_ z 2) λba=>cn e [I J 0,I J 0,Z [],Z [],I J 0,aa.ar,I J 0,I J 0,I J 0,I J 0,I J 0] λW o=>cn o [I J 0,I J 0] λab E=>a8 E (aU P E 45 W a9) λF=>a8 F (aU P F 29 ab ba) λp=>j (ak P p 45 h) λbb=>aJ p (G 17 [bb] p) λbc ap=>j (aq P .eql 9 U y bc) λl=>aN l X ap (bu (aH P 29 w 0)) λbd L=>aN l X L (qr (ak P L 27 bd)) λbe au=>aN l X au (bu (aq P .eql 27 X be (I J 0))) λbf av=>j (cu l (D bf) (D (Y U))) λm=>aN m X av (bu (aH P 29 ab 0)) λbg M=>aN m X M (qr (ak P M 27 bg)) λbi aw=>aN m X aw (bu (aq P .eql 27 X bi (I J 0))) λbj ax=>j (cu m (D bj) (D (Y U))) λd=>aN d X ax (cv a_) λbk ay=>aN d X ay (cv ah) λal N=>aN d X N (λq=>ha (b_ P .empty .len [36] [al]) (b_ P N .len [36] [al]) q) λbl aA=>aN d X aA (bu (aq P .sub 3 X bl (I J 1))) λbm aC=>aN d X aC (bu (aq P .eql 3 U bk bm)) λbn R=>j (cu d (D bn) (D (Y U))) λn=>aN n X R (qr (ak P R 45 W)) λbo S=>aN n X S (qr (ak P S 45 h)) λbp s=>aN n X s (λq=>eI s (G 18 [bo,bp] s) q) λbq u=>j (cu n (D bq) (D (Y U))) λam=>aN am X u (λq=>eI u (G 12 [] u) q) λbr aD=>j (cu am (D br) (D (Y U))) λbs=>D (bs,aD))))
def N_(G:az)(N:Nat)(ag:aa)(H:ad):sJ Tryd.f5 G N (lq [ag]) H=kk G ag H:=by
 refine dY (A:=sJ Tryd.f5 G N) (aL _) ?_;delta kk;kernel_rfl
end
end
mutual
def FA(B:Nat):∀e:aA,cK e<=B->gQ B e
 | .mk a ks,h=>by
  rw[cK]at h;rw[gQ];exact⟨by have:=pD ks;omega,Fz B ks af⟩
def Fz(B:Nat):∀l:List aA,b7 l<=B->eR B l
 |[],_=>by rw[eR];trivial
 |e::r,h=>by
  rw[b7]at h;rw[eR];exact⟨FA B e af,Fz B r af⟩
end
def OM{a b:aA}(h:a.bt=b.bt):jL a b=true:=by
 rw[<-Fc,h];exact Fe _
def Lp{e:aA}{s:au}(h:¬s.aG=0):jD e s=(.zero,0,s.aG,s.cP):=by unfold jD;rw[if_neg h]
def Pt{s:aC}(h:6000<s.length):dx s=([],4,0):=by unfold dx;rw[if_pos h]
def Kn{H a:ad}(e:fi.hP H)(d:aO H a):W (aJ a (aD P ay 12 [] a) λx h=>D (x,h)) λv H'=>v= Y X/\aO H H':=by
 refine aP (wq (e.aM d)) ?_;rintro _ i ⟨rfl,c⟩;exact⟨c.1,ba.2 ⟨rfl,d.trans c⟩⟩
def Ja{H:ad}(L:fi.hP H)(s:aC):W (kk (aD P ay) (Z s) H) λv H'=>v= Y X/\aO H H':=by
 rw[kk];refine aP (u4 s) ?_;rintro _ H1 ⟨ao,rfl,am,au⟩;refine⟨au.1,?_⟩;have hex:= @Ad s;have hlen:=sn s;generalize dx s=x at am hex hlen ⊢;obtain⟨T,e,f⟩:=x;simp only at am hex hlen ⊢;have Q:=aO.push H1 (.row U 2 [[I J e,I J f]]);have ae:=ad.bI H1 (.row U 2 [[I J e,I J f]]);by_cases aT:(2000:Int)<s.length
 ·simp-implicitDefEqProofs(disch:=try exact aj)only[reduceAdd,reduceLeDiff,reduceIte,aw,ad.gd,aT,decide_true];exact ba.2 ⟨rfl,au.trans Q⟩
 simp-implicitDefEqProofs(disch:=try exact aj)only[reduceAdd,reduceLeDiff,reduceIte,aw,ad.gd,aT,decide_false];generalize H1.push (.row U 2 [[I J e,I J f]])=bz at Q ae ⊢;have a6:=au.trans Q;by_cases aQ:e=0
 rotate_left
 ·have ai:(e != 0)=true:=by simpa using aQ
  simp-implicitDefEqProofs(disch:=try exact aj)only[reduceAdd,reduceLeDiff,reduceIte,aw,ae,ai];exact ba.2 ⟨rfl,a6⟩
 subst aQ;have aV:((0:Int) != 0)=false:=rfl;have bb:((0:Int)==0)=true:=rfl;simp-implicitDefEqProofs(disch:=try exact aj)only[reduceAdd,reduceLeDiff,reduceIte,aw,ae,aV];have bp:=am.aM Q;obtain⟨⟨b,st⟩,aI⟩:=vh (T:=T) af ⟨0,0,0,0⟩;refine aP (yg bf bp aI) ?_;rintro _ j ⟨bM,rfl,he,a0⟩;refine⟨a0.1,?_⟩;have a7:=a6.trans a0;by_cases O:st.aG=0
 rotate_left
 ·rw[Lp O]at he ⊢;simp only at he ⊢;have ai:(st.aG != 0)=true:=by simpa using O
  obtain⟨cs,rfl,n,o⟩:=he.cells;have q:=(aO.push j (.row U 11 [cs])).bE (.row U 2 [[I J st.aG,I J st.cP]]);have p:=ad.bI (j.push (.row U 11 [cs])) (.row U 2 [[I J st.aG,I J st.cP]]);simp only[ad.bX]at p;simp-implicitDefEqProofs(disch:=try exact aj)only[reduceAdd,reduceLeDiff,reduceIte,aw,ad.gd,n,o,List.append_nil];generalize (j.push (.row U 11 [cs])).push (.row U 2 [[I J st.aG,I J st.cP]])=av at q p ⊢;simp-implicitDefEqProofs(disch:=try exact aj)only[reduceAdd,reduceLeDiff,reduceIte,aw,p,ai];exact Kn L (a7.trans q)
 rw[Ea O]at he ⊢;simp only at he ⊢;obtain⟨d,bn,G,N⟩:=hex rfl aI O;simp only at G N;obtain⟨a,ks⟩:=b;obtain⟨kv,rfl,al⟩:=hc.1 he;obtain⟨cs,E,n,o⟩:=he.cells;have E:=aa.agg.inj E;have M:List.take 11 cs=cs:=List.take_of_length_le af;rw[E]at he ⊢;have q:=(aO.push j (.row U 11 [cs])).bE (.row U 2 [[I J 0,I J 0]]);have gc:=(aO.push (j.push (.row U 11 [cs])) (.row U 2 [[I J 0,I J 0]])).get (ad.bI j (.row U 11 [cs]));have p:=ad.bI (j.push (.row U 11 [cs])) (.row U 2 [[I J 0,I J 0]]);simp only[ad.bX]at p;simp-implicitDefEqProofs(disch:=try exact aj)only[reduceAdd,reduceLeDiff,reduceIte,aw,ad.gd,n,o,List.append_nil]
 generalize (j.push (.row U 11 [cs])).push (.row U 2 [[I J 0,I J 0]])=av at q gc p ⊢;have a8:=a7.trans q;simp-implicitDefEqProofs(disch:=try exact aj)only[reduceAdd,reduceLeDiff,reduceIte,aw,gc,p,aV,n,o,M];have bo:=al.aM q;rw[<-E];refine aP (bC _ d 0 G N a ks rfl av _ kv bo (L.aM a8)) ?_;rintro _ bA ⟨rfl,R⟩;refine⟨R.1,?_⟩;have bs:=a8.trans R;have bc:=R.get gc;refine aP (u4 (flat (bd (.mk a ks)))) ?_;rintro _ u ⟨bL,rfl,hu,S⟩;refine⟨S.1,?_⟩;have a9:=bs.trans S;have aJ:=S.get bc;have aR:∀z:aC,(z==z)=true:=λz=>by simp
 have a2:=(q.trans R).trans S;by_cases bm:6000<(flat (bd (.mk a ks))).length
 ·rw[Pt bm]at hu ⊢;simp only at hu ⊢;have c:=aO.push u (.row U 2 [[I J 4,I J 0]]);have B:=ad.bI u (.row U 2 [[I J 4,I J 0]]);have A:=c.get aJ;simp-implicitDefEqProofs(disch:=try exact aj)only[reduceAdd,reduceLeDiff,reduceIte,aw,ad.gd];generalize u.push (.row U 2 [[I J 4,I J 0]])=ax at c A B ⊢;have fH:=a9.trans c;have b8:((4:Int)==4)=true:=rfl;simp-implicitDefEqProofs(disch:=try exact aj)only[reduceAdd,reduceLeDiff,reduceIte,aw,A,B,b8,n,o,M];rw[<-E];refine aP (bq _ d 0 G N a ks rfl ax _ kv (al.aM (a2.trans c))) ?_;rintro _ w ⟨rfl,l⟩;refine⟨l.1,?_⟩
  have V:=fH.trans l;simp-implicitDefEqProofs(disch:=try exact aj)only[reduceAdd,reduceLeDiff,reduceIte,aw,aR];refine iA (wq (L.aM V)) ?_;rintro _ az ⟨rfl,i⟩;refine⟨i.1,?_⟩;simp-implicitDefEqProofs(disch:=try exact aj)only[bh,bx];exact ba.2 ⟨rfl,V.trans i⟩
 ·have aU:=sn (flat (bd (.mk a ks)));obtain⟨⟨aE,bv⟩,F⟩:=vh (T:=(dx (flat (bd (.mk a ks)))).1) af ⟨0,0,0,0⟩;obtain⟨K,ap,aZ,aq⟩:=I9 G bn af F;obtain⟨d2,bG,bH,aY⟩:=Ad K F ap;have aW:=(uF K).2;generalize dx (flat (bd (.mk a ks)))=y at K aq hu aU aW F ⊢;obtain⟨ab,bF,hB⟩:=y;simp only at K ap aZ aq hu aU aW F aY ⊢;subst K;have c:=aO.push u (.row U 2 [[I J 0,I J hB]]);have B:=ad.bI u (.row U 2 [[I J 0,I J hB]]);have A:=c.get aJ;simp-implicitDefEqProofs(disch:=try exact aj)only[reduceAdd,reduceLeDiff,reduceIte,aw,ad.gd];generalize u.push (.row U 2 [[I J 0,I J hB]])=ax at c A B ⊢
  have fH:=a9.trans c;have b8:((0:Int)==4)=false:=rfl;have aX:=hu.aM c;simp-implicitDefEqProofs(disch:=try exact aj)only[reduceAdd,reduceLeDiff,reduceIte,aw,A,B,b8];refine aP (yg bf aX F) ?_;rw[Ea ap];rintro _ w ⟨bN,rfl,ak,l⟩;refine⟨l.1,?_⟩;simp only at ak ⊢;have V:=fH.trans l;have ag:=l.get A;have aL:=l.get B;have bJ:=ad.aS ag;have bK:=ad.aS aL;obtain⟨k,rfl,aF,aH⟩:=ak.cells;have br:List.take 11 k=k:=List.take_of_length_le af;have i:=(aO.push w (.row U 11 [k])).bE (.row U 2 [[I J 0,I J 0]]);have ge:=(aO.push (w.push (.row U 11 [k])) (.row U 2 [[I J 0,I J 0]])).get (ad.bI w (.row U 11 [k]))
  have ah:=ad.bI (w.push (.row U 11 [k])) (.row U 2 [[I J 0,I J 0]]);simp only[ad.bX]at ah;have aK:=i.get ag;have aN:=i.get aL;simp-implicitDefEqProofs(disch:=try exact aj)only[reduceAdd,reduceLeDiff,reduceIte,aw,ad.gd,aF,aH,List.append_nil,ag,n,o,M];generalize (w.push (.row U 11 [k])).push (.row U 2 [[I J 0,I J 0]])=az at i ge ah aK aN ⊢;have bt:=V.trans i;rw[<-E];have a3:=((a2.trans c).trans l).trans i;refine aP (bq _ d 0 G N a ks rfl az _ kv (al.aM a3)) ?_;rintro _ aA ⟨rfl,m⟩;refine⟨m.1,?_⟩;have be:=m.get aK;have bg:=m.get aN;have bi:=m.get ge;have bj:=m.get ah
  have bu:=bt.trans m;have hm:=λH'=>aX.Kz H'
  have bw:IntKind.i64.wrap ((ab.length:Int)-1)=(ab.length:Int)-1:=wrap_i64 af af;have an:(bv.at_==(ab.length:Int)-1)=true:=by rw[aq];simp
  simp-implicitDefEqProofs(disch:=try exact aj)only[reduceAdd,reduceLeDiff,reduceIte,aw,aR,be,bg,bi,bj,hm,bw,bb,an,n,o,aF,aH,M,br];have bk:cw aA _ aE (.agg k):=ak.a1 (c9.aM (i.trans m) λ_ h=>h);have bl:cw aA _ (.mk a ks) (.agg cs):=he.a1 (c9.aM (a3.trans m) λ_ h=>h);refine iA (FB bf aE (FA 1000000000 _ aY) _ _ _ _ _ _ bk bl) ?_;rintro _ bB ⟨rfl,a4⟩;refine⟨a4.1,?_⟩;rw[OM aZ];have a_:=bu.trans a4;simp-implicitDefEqProofs(disch:=try exact aj)only[reduceAdd,reduceLeDiff,reduceIte,aw];refine iA (wq (L.aM a_)) ?_;rintro _ bD ⟨rfl,a5⟩;refine⟨a5.1,?_⟩;simp-implicitDefEqProofs(disch:=try exact aj)only[bh,bx]
  exact ba.2 ⟨rfl,a_.trans a5⟩
