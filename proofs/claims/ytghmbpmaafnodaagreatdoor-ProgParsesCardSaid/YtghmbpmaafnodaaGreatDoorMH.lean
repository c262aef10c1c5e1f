/-
  Texts of one proof, laid together: X6 X7 X8 X9 X10 T1.
-/
import Derived.Test.YtghmbpmaafnodaaGreatDoorMG
import Derived.Test.YtghmbpmaafnodaaGreatDoorMF
set_option linter.unusedVariables false
set_option linter.unusedSimpArgs false
namespace Go.Proofs.YtghmbpmaafnodaaGreatDoor
open Go.gd
open Nat (reduceAdd reduceLeDiff)
section
theorem sx(call:av)(H:J)(f:Nat)(a c cl:List I)(k:I->J->O):qJ call H (.func (.func f) a c) cl k=aO H (call f (a++cl++c) H) k:=rfl
theorem RR{n:Nat}{H0 H:J}{r:Nat}{T:List Tok}{ak br:I}{s0 s:aA}(bs:e6 H0 r T ak br s0)(bP:cC r H0 H)(cp:ed H r ak br s){l:List bp}{v:I}(ah:dP H (bI H0.next) l v):
  W (vd (aq P ao) n (.ptr r 0 0) v H) λv H'=>cC r H0 H'/\e6 H' r T ak br (j1 T [41] s).2/\dP H' (bI H0.next) l v:=by
 have az:=bs.rd.lt;rw[vd];refine a6 (JK (bs.mut bP cp) [41]) ?_;rintro _ H1 ⟨rfl,m1,du⟩;refine⟨m1.1,?_⟩
 try simp only[vc,o6]
 exact a_.2 ⟨bP.trans m1,du,ah.bo (e_.mut m1 (by unfold bI;omega) λ_ h=>h)⟩
theorem QJ{N:Nat}(aT: ∀k,k<N->mN k){H0:J}{r:Nat}{T:List Tok}{ak br:I}{s0:aA}(bs:e6 H0 r T ak br s0)(fC:br≠ .ap):
  ∀(n m:Nat),n<N->n<m-> ∀(H:J) (s:aA) (l:List bp) (L:Nat) (els:List (List I)),cC r H0 H->ed H r ak br s->l.length+n<=1000000000->H.get L=some (.row false 11 els)->H0.next<=L->els.length=l.length->
   gq H (λk=>H0.next<=k/\k≠L) l els-> ∀(l':List bp) (s':aA),mm T n l s=some (l',s')->
   W (y_ (aq P ao) N m (.ptr r 0 0) (.func (.func 163) [.ptr r 0 0] []) (.aN L 0 l.length 11 none) H) λv H'=>cC r H0 H'/\e6 H' r T ak br s'/\dP H' (bI H0.next) l' v
 |0,m,dU,hm,H,s,l,L,els,bP,cp,hlen,aZ,gH,kN,pb,l',s',h=>by simp[mm] at h
 |n+1,0,dU,hm,H,s,l,L,els,bP,cp,hlen,aZ,gH,kN,pb,l',s',h=>Z
 |n+1,m+1,dU,hm,H,s,l,L,els,bP,cp,hlen,aZ,gH,kN,pb,l',s',h=>by
  have az:=bs.rd.lt;have aoi:=J.aX aZ;have hle:=bP.1;simp only[mm] at h;simp only[y_];rw[vc];refine a6 (Kb (bs.mut bP cp) 4 [44]) ?_;rintro _ H1 ⟨rfl,m1,du⟩;refine⟨m1.1,?_⟩;have mX:=m1.get aZ Z;have amH:=J.aX mX;have Er:=pb.bo (e_.mut m1 Z λ_ h=>h) l els;cases bz:(fj T 4 [44] s).1 with
  |false=>
   simp only[bz,bj,bF,dw] at h;obtain⟨rfl,rfl⟩:=h;simp-implicitDefEqProofs(disch:=try exact af) only[vc,o6,reduceAdd,reduceLeDiff,reduceIte,aw];refine RR bs (bP.trans m1) du.rd (.inr (.inl ⟨L,0,none,false,els,rfl,gH,mX,?_⟩));rw[List.drop_zero];exact Er.bo (e_.q4 λ_ h=>h.1) l els
  |true=>
   simp only[bz,bC,eW] at h;obtain⟨⟨aI,s1⟩,U,aa⟩:=h;simp-implicitDefEqProofs(disch:=try exact af) only[vc,o6,reduceAdd,reduceLeDiff,reduceIte,aw,sx,List.append_nil];refine a6 (Gj (aT n Z) du fC U) ?_;rintro v bm ⟨m2,cJ,fR⟩;refine⟨m2.1,?_⟩;have sb:=m2.get mX Z;have amI:=J.aX sb;have sc:=m1.1;have hy:=m2.1;have Mb:=Er.bo (e_.mut m2 Z λ_ h=>h) l els;obtain⟨cs,rfl,mi,dN⟩:=fR.cells;have aM: ∀l,dK P l 96 1 [(0,.agg cs)]=some (.aN l 0 1 11 (some 1),.row false 11 [cs]):=λl=>jP l cs mi dN
   simp-implicitDefEqProofs(disch:=try exact af) only[vc,o6,reduceAdd,reduceLeDiff,reduceIte,aw,aM];have bB:=aR.push bm (.row false 11 [cs]);rw[Sl (J.ca bm (.row false 11 [cs])) (bB.get sb) kN Z,kx (by simp only[J.b2,J.e9];omega)];simp only[J.b2,J.e9,o6];have LF:l.length+1=(l++[aI]).length:=by simp
   rw[LF];have lv: ∀k,k<bm.next->k≠L->(((bm.push (.row false 11 [cs])).set L .dead).push (.row false 11 (els++[cs]))).get k=bm.get k:=λk ah e3=>by
    rw[J.gD (by simp only[J.b2,J.e9];omega),J.get_set_other Z,J.gD Z]
   have N3:cC r H0 (((bm.push (.row false 11 [cs])).set L .dead).push (.row false 11 (els++[cs]))):=(((bP.trans m1).trans m2).bX _|>.db (.inr gH) _).bX _;refine QJ aT bs fC n m Z Z _ s1 (l++[aI]) (bm.next+1) (els++[cs]) N3 ?_ (by simp;omega) ?_ Z (by simp[kN]) ?_ l' s' aa
   ·have:=cJ.rd;unfold ed at this ⊢;rw[lv r Z Z];exact this
   ·exact J.wI (by simp only[J.b2,J.e9];omega) (by simp only[J.b2,J.e9];omega)
   ·refine gq.append l els aI cs ?_ kN ?_
    ·exact Mb.bo (λk ro es ah kO=>⟨⟨ah.1,by have:=J.aX kO;omega⟩,by rw[lv k (J.aX kO) ah.2];exact kO⟩) l els
    ·exact fR.bo (λk ro es ah kO=>by
      have ae:=J.aX kO;unfold bI at ah;exact⟨⟨Z,Z⟩,by rw[lv k ae Z];exact kO⟩) aI _
theorem ac6{n:Nat}(aU:n<=900000000)(aT: ∀k,k<=n->mN k):K9 (n+1):=by
 intro H r T ak br s ag fC l s' h;refine cP (λ_=>aiy (n+1)) ?_;have az:=ag.rd.lt;simp only[rQ] at h;rw[o6];refine a6 (Gf ag [40]) ?_;rintro _ H1 ⟨rfl,m1,du⟩;refine⟨m1.1,?_⟩;cases bt:(eI T [40] s).1 with
 |false=>
  simp only[bt,bj,bF,dw] at h;obtain⟨rfl,rfl⟩:=h;simp-implicitDefEqProofs(disch:=try exact af) only[vc,o6,reduceAdd,reduceLeDiff,reduceIte,aw,Bool.not_false];exact a_.2 ⟨m1,du,dP.nil _ _⟩
 |true=>
  simp only[bt,bC] at h;simp-implicitDefEqProofs(disch:=try exact af) only[o6,reduceAdd,reduceLeDiff,reduceIte,aw,Bool.not_true];refine a6 (rm du.rd du.cf 4 [41]) ?_;rintro _ bm ⟨rfl,aJ⟩;refine⟨aJ.1,?_⟩;have cJ:=du.aK aJ;have bP:=m1.trans (aJ.mut _);cases be:b7 T (eI T [40] s).2 4 [41] with
  |true=>
   simp only[be,bC,bF,dw] at h;obtain⟨rfl,rfl⟩:=h;simp-implicitDefEqProofs(disch:=try exact af) only[o6,reduceAdd,reduceLeDiff,reduceIte,aw,Bool.not_true];exact RR ag bP cJ.rd (dP.nil _ _)
  |false=>
   simp only[be,bj,eW] at h;obtain⟨⟨aI,s1⟩,U,aa⟩:=h;simp-implicitDefEqProofs(disch:=try exact af) only[o6,reduceAdd,reduceLeDiff,reduceIte,aw,Bool.not_false,sx,List.append_nil];refine a6 (Gj (aT n (bN _)) cJ fC U) ?_;rintro v cT ⟨m3,e2,mx⟩;refine⟨m3.1,?_⟩;have sc:=m1.1;have hy:=aJ.1;have s8:=m3.1;obtain⟨cs,rfl,mi,dN⟩:=mx.cells;have aM: ∀l,dK P l 96 1 [(0,.agg cs)]=some (.aN l 0 1 11 (some 1),.row false 11 [cs]):=λl=>jP l cs mi dN
   simp-implicitDefEqProofs(disch:=try exact af) only[o6,reduceAdd,reduceLeDiff,reduceIte,aw,aM];have bK:=(aR.push cT (.row false 11 [cs])).bX (.row false 11 [cs]);rw[Rd (J.ca cT (.row false 11 [cs])),kx (by simp only[J.b2];omega)];simp only[J.b2,o6];refine QJ (N:=n+1) (λk ah=>aT k Z) ag fC n (n+1) Z Z _ s1 [aI] (cT.next+1) [cs] ((bP.trans m3).trans (bK.mut _)) (e2.rd.aK bK) (by simp;omega) ?_ Z rfl ?_ l s' aa
   ·exact J.wI (by simp only[J.b2];omega) (by simp only[J.b2];omega)
   ·rw[gq,gq];exact⟨mx.bo (λk ro es ah kO=>by
     have ae:=J.aX kO;unfold bI at ah;exact⟨⟨Z,Z⟩,bK.get kO⟩) aI _,trivial⟩
theorem ada{n:Nat}(aT:K9 n):K_ (n+1):=by
 intro H r T ak br s ag fC e s' h;refine cP (λ_=>aiu 0) ?_;have az:=ag.rd.lt;have de:=ag.cf.one;have hA:=ag.br.one;simp-implicitDefEqProofs(disch:=try exact af) only[uy,reduceAdd,reduceLeDiff,reduceIte,aw];refine a6 (mI (ag.rd.aK (aR.push _ _)) (ag.cf.aK (aR.push _ _))) ?_;rintro _ bm ⟨rfl,aJ⟩;refine⟨aJ.1,?_⟩;have jT:=aJ.1;simp only[J.b2] at jT;have bP:=((aR.push H _).trans aJ).mut (· =r);have nB:=ag.rd.aK ((aR.push H _).trans aJ);have cI:=nB;unfold ed at cI;have ck:=aJ.get (J.ca H _);obtain⟨m3,lp⟩:=qu (nB.aK (aR.push bm (.row false 4 [[.int .i64 (ar T s.at_).kind,.str (ar T s.at_).text,.int .i64 (ar T s.at_).n,.int .i64 (ar T s.at_).pos]]))) (aF s)
 have kQ:=J.ca bm (.row false 4 [[.int .i64 (ar T s.at_).kind,.str (ar T s.at_).text,.int .i64 (ar T s.at_).n,.int .i64 (ar T s.at_).pos]]);have YZ:=aR.push bm (.row false 4 [[.int .i64 (ar T s.at_).kind,.str (ar T s.at_).text,.int .i64 (ar T s.at_).n,.int .i64 (ar T s.at_).pos]]);replace bP:=bP.trans (YZ.mut _);simp-implicitDefEqProofs(disch:=try exact af) only[uy,reduceAdd,reduceLeDiff,reduceIte,aw,Tok.v,cI,de,hA];have e2:=ag.mut (bP.trans m3) lp;refine a6 (rm e2.rd e2.cf 4 [40]) ?_;rintro _ ct ⟨rfl,bK⟩;refine⟨bK.1,?_⟩;have fV:=bK.get (m3.get (YZ.get ck) Z);have se:=bK.get (m3.get kQ Z);have yc:=J.aX fV
 have ap6:=J.aX se;have fa:=e2.aK bK;replace bP:=(bP.trans m3).trans (bK.mut _);simp only[ul] at h;cases be:b7 T (aF s) 4 [40] with
 |false=>
  simp only[be,bj,bF,dw] at h;obtain⟨rfl,rfl⟩:=h;simp-implicitDefEqProofs(disch:=try exact af) only[uy,reduceAdd,reduceLeDiff,reduceIte,aw,Bool.not_false,fV,se];refine a_.2 ?_;exact fZ.box (a:={kind:=4,name:=(ar T s.at_).text,pos:=(ar T s.at_).pos}) (kv:= .ap) (lo:=H.next+1) ag bP fa.rd (bN _) (Nat.lt_succ_self _) (dP.nil _ _) _
 |true=>
  simp only[be,bC,eW] at h;obtain⟨⟨eG,s1⟩,U,aa⟩:=h;simp only[bF,dw] at aa;obtain⟨rfl,rfl⟩:=aa;simp-implicitDefEqProofs(disch:=try exact af) only[uy,reduceAdd,reduceLeDiff,reduceIte,aw,Bool.not_true];refine a6 (aT fa fC eG s1 U) ?_;rintro v dp ⟨m5,fg,Ys⟩;refine⟨m5.1,?_⟩;have gz:=m5.get fV Z;have oD:=m5.get se Z;have C0:=J.aX gz;have ap7:=J.aX oD;replace bP:=bP.trans m5;have Ct: ∀kv:I,dP dp (bI ct.next) eG kv->fZ H r T ak br (.mk {kind:=7,name:=(ar T s.at_).text,pos:=(ar T s.at_).pos} eG) s1 (.agg (f6.cells {kind:=7,name:=(ar T s.at_).text,pos:=(ar T s.at_).pos} kv)) (dp.set H.next (.row false 11 [f6.cells {kind:=7,name:=(ar T s.at_).text,pos:=(ar T s.at_).pos} kv])):=λkv ah=>
   fZ.box (lo:=ct.next) ag bP fg.rd (bN _) Z ah _
  have Mc:=Ys;rcases Ys with⟨rfl,_⟩|⟨L,i,cap,ro,els,rfl,_⟩|⟨L,i,cap,rfl,_⟩
  ·simp-implicitDefEqProofs(disch:=try exact af) only[uy,reduceAdd,reduceLeDiff,reduceIte,aw,gz,oD,se];exact a_.2 (Ct _ Mc)
  ·simp-implicitDefEqProofs(disch:=try exact af) only[uy,reduceAdd,reduceLeDiff,reduceIte,aw,gz,oD,se];exact a_.2 (Ct _ Mc)
  ·simp-implicitDefEqProofs(disch:=try exact af) only[uy,reduceAdd,reduceLeDiff,reduceIte,aw,gz,oD,se];exact a_.2 (Ct _ Mc)
end
section
theorem L0:P.underlying 218=some (.map 9 217):=ad
theorem LZ:P.underlying 212=some (.map 9 214):=ad
theorem wv:P.underlying 9=some .string:=ad
theorem VH:j2 P 217=some .nilFunc:=ad
theorem VG:j2 P 214=some .nilFunc:=ad
theorem zM{H:J}{l:Nat}{es:List (I×I)}(k:bl)(v:I)(aZ:H.get l=some (.map es))(al:pO .string (.str k) es 0=some none):jk P H 218 (.map l) (.str k) v=some (H.set l (.map (es++[(.str k,v)]))):=by
 simp only[jk,L0,wv,aZ,plainKey,al,if_true]
theorem V9{H:J}{l:Nat}{es:List (I×I)}(k:bl)(v:I)(aZ:H.get l=some (.map es))(al:pO .string (.str k) es 0=some none):jk P H 212 (.map l) (.str k) v=some (H.set l (.map (es++[(.str k,v)]))):=by
 simp only[jk,LZ,wv,aZ,plainKey,al,if_true]
def fn(n:Nat):I:= .func (.func n) [] []
def nY:List (I×I):=[(.str [116,114,117,101],fn 188),(.str [102,97,108,115,101],fn 188),(.str [110,117,108,108],fn 189),(.str [110,101,119],fn 190),(.str [108,101,110],fn 191),(.str [114,101,97,100],fn 192),(.str [40],fn 193)]
def sy:List (I×I):=[(.str [46],fn 185),(.str [91],fn 186)]
theorem O_(H:J):W (aq P ao 184 [] H) λv H'=>v= .map H.next/\H'=H.push (.map nY):=by
 refine cP (λ_=>aiv 0) ?_;simp only[r3,yI]
 try simp only[r3]
 rw[zM _ _ (J.ca H _) rfl,lz (by simp),J.nW]
 try simp only[r3]
 rw[zM _ _ (J.ca H _) rfl,lz (by simp),J.nW]
 try simp only[r3]
 rw[zM _ _ (J.ca H _) rfl,lz (by simp),J.nW]
 try simp only[r3]
 rw[zM _ _ (J.ca H _) rfl,lz (by simp),J.nW]
 try simp only[r3]
 rw[zM _ _ (J.ca H _) rfl,lz (by simp),J.nW]
 try simp only[r3]
 rw[zM _ _ (J.ca H _) rfl,lz (by simp),J.nW]
 try simp only[r3]
 rw[zM _ _ (J.ca H _) rfl,lz (by simp),J.nW]
 try simp only[r3]
 exact a_.2 ⟨rfl,rfl⟩
theorem aab(H:J):W (aq P ao 182 [] H) λv H'=>v= .map H.next/\H'=H.push (.map sy):=by
 refine cP (λ_=>ait 0) ?_;simp only[Ag,yI]
 try simp only[Ag]
 rw[V9 _ _ (J.ca H _) rfl,lz (by simp),J.nW]
 try simp only[Ag]
 rw[V9 _ _ (J.ca H _) rfl,lz (by simp),J.nW]
 try simp only[Ag]
 exact a_.2 ⟨rfl,rfl⟩
def j5(t:bl):List (I×I)->I
 |[]=> .nilFunc
 |(.str k,v)::r=>bif t==k then v else j5 t r
 |_::r=>j5 t r
theorem Gc(t:bl): ∀(es:List (I×I)) (i:Nat),(∀e∈es,∃k,e.1= .str k)->(∃j v,pO .string (.str t) es i=some (some (j,v))/\j5 t es=v)\/(pO .string (.str t) es i=some none/\j5 t es= .nilFunc)
 |[],i,_=> .inr ⟨rfl,rfl⟩
 |(a,v)::es,i,h=>by
  obtain⟨k,ah⟩:=h (a,v) (by simp);simp only at ah;subst ah;cases ax:t==k with
  |true=>exact .inl ⟨i,v,by simp[pO,u5,ax],by simp[j5,ax]⟩
  |false=>
   rcases Gc t es (i+1) (λe he=>h e (by simp[he])) with⟨j,u,U,aa⟩|⟨U,aa⟩
   ·exact .inl ⟨j,u,by simp[pO,u5,ax,U],by simp[j5,ax,aa]⟩
   ·exact .inr ⟨by simp[pO,u5,ax,U],by simp[j5,ax,aa]⟩
theorem V2{H:J}{l:Nat}(t:bl)(aZ:H.get l=some (.map nY)):nX P H 218 (.map l) (.str t) false=some (j5 t nY):=by
 rcases Gc t nY 0 (by intro e he;simp[nY] at he;rcases he with rfl|rfl|rfl|rfl|rfl|rfl|rfl<;>exact⟨_,rfl⟩) with⟨j,v,U,aa⟩|⟨U,aa⟩
 ·simp only[nX,L0,wv,VH,plainKey,if_true,aZ,U,aa,Bool.false_eq_true,if_false]
 ·simp only[nX,L0,wv,VH,plainKey,if_true,aZ,U,aa,Bool.false_eq_true,if_false]
theorem akz{H:J}{l:Nat}(t:bl)(aZ:H.get l=some (.map sy)):nX P H 212 (.map l) (.str t) false=some (j5 t sy):=by
 rcases Gc t sy 0 (by intro e he;simp[sy] at he;rcases he with rfl|rfl<;>exact⟨_,rfl⟩) with⟨j,v,U,aa⟩|⟨U,aa⟩
 ·simp only[nX,LZ,wv,VG,plainKey,if_true,aZ,U,aa,Bool.false_eq_true,if_false]
 ·simp only[nX,LZ,wv,VG,plainKey,if_true,aZ,U,aa,Bool.false_eq_true,if_false]
theorem V_(n:Nat):aW P .neq 217 true (fn n) .nilFunc=some (.bool true):=ad
theorem ahC:aW P .neq 217 true .nilFunc .nilFunc=some (.bool false):=ad
theorem VM(n:Nat):aW P .eql 214 true (fn n) .nilFunc=some (.bool false):=ad
theorem aho:aW P .eql 214 true .nilFunc .nilFunc=some (.bool true):=ad
theorem J1{H0 H:J}{r:Nat}{T:List Tok}{ak br:I}{s0 s:aA}(bs:e6 H0 r T ak br s0)(bP:cC r H0 H)(cp:ed H r ak br s)(ax:H.get H0.next=some (.row false 11 [[.int .i64 0,.int .i64 0,.str [],.str [],.int .i64 0,.ap,.int .i64 0,.int .i64 0,.int .i64 0,.int .i64 0,.int .i64 0]])):
  W (tK (aq P ao) (.ptr r 0 0) (.ptr H0.next 0 0) H) (fZ H0 r T ak br .zero (cS T 2 s)):=by
 have az:=bs.rd.lt;rw[tK];refine a6 (wM (bs.mut bP cp) 2) ?_;rintro _ H1 ⟨rfl,m1,du⟩;refine⟨m1.1,?_⟩;have dQ:=m1.get ax Z;have E9:=J.aX dQ;simp-implicitDefEqProofs(disch:=try exact af) only[tK,oe,mr,reduceAdd,reduceLeDiff,reduceIte,aw,dQ];exact a_.2 (fZ.ret bs (bP.trans m1) du.rd (bN _) (ea.leaf _ (bI (H0.next+1)) {kind:=0}) (Nat.lt_succ_self _) _)
theorem yM{H0 H:J}{r:Nat}{T:List Tok}{ak br:I}{s0 s:aA}(bs:e6 H0 r T ak br s0)(bP:cC r H0 H)(cp:ed H r ak br s)(ax:H.get H0.next=some (.row false 11 [[.int .i64 0,.int .i64 0,.str [],.str [],.int .i64 0,.ap,.int .i64 0,.int .i64 0,.int .i64 0,.int .i64 0,.int .i64 0]])){b:Nat}(ln:H0.next<b)(bi:H.get b=some (.row false 4 [[.int .i64 (ar T s.at_).kind,.str (ar T s.at_).text,.int .i64 (ar T s.at_).n,.int .i64 (ar T s.at_).pos]]))
  {k:Nat} (nI:j5 (ar T s.at_).text nY=fn k) (Au:(((ar T s.at_).kind==4)==((ar T s.at_).text==[40]))=true) {e:bp} {s':aA} (aS: ∀hK,e6 hK r T ak br s->W (aq P ao k [.ptr r 0 0] hK) (fZ hK r T ak br e s')):
  W (oe (aq P ao) (.ptr r 0 0) (.ptr H0.next 0 0) (.ptr b 0 0) (.bool true) H) (fZ H0 r T ak br e s'):=by
 have az:=bs.rd.lt;have iw:=J.aX ax;have wi:=J.aX bi;simp-implicitDefEqProofs(disch:=try exact af) only[oe,mr,reduceAdd,reduceLeDiff,reduceIte,aw];refine a6 (O_ H) ?_;rintro _ H1 ⟨rfl,rfl⟩;refine⟨(aR.push _ _).1,?_⟩;have aV:=aR.push H (.map nY);have rM:=V2 (ar T s.at_).text (J.ca H (.map nY));simp-implicitDefEqProofs(disch:=try exact af) only[oe,mr,reduceAdd,reduceLeDiff,reduceIte,aw,bi,rM,nI,V_,Au];simp only[fn,sx,List.nil_append,List.append_nil];refine a6 (aS _ ((bs.mut bP cp).aK aV)) ?_;rintro v bm ⟨m2,cJ,fR⟩;refine⟨m2.1,?_⟩;have ck:=m2.get (aV.get ax) Z;have vO:=J.aX ck;obtain⟨cs,rfl,hlen,dN⟩:=fR.cells
 have bz:List.take 11 cs=cs:=List.take_of_length_le Z;simp-implicitDefEqProofs(disch:=try exact af) only[oe,mr,reduceAdd,reduceLeDiff,reduceIte,aw,ck,hlen,dN,List.append_nil,bz];have hm:=bP.1;exact a_.2 (fZ.ret bs ((bP.trans (aV.mut _)).trans m2) cJ.rd (bN _) fR (by simp only[J.b2];omega) _)
theorem RI{H0 H:J}{r:Nat}{T:List Tok}{ak br:I}{s0 s:aA}(bs:e6 H0 r T ak br s0)(bP:cC r H0 H)(cp:ed H r ak br s)(ax:H.get H0.next=some (.row false 11 [[.int .i64 0,.int .i64 0,.str [],.str [],.int .i64 0,.ap,.int .i64 0,.int .i64 0,.int .i64 0,.int .i64 0,.int .i64 0]])){b:Nat}(ln:H0.next<b)(bi:H.get b=some (.row false 4 [[.int .i64 (ar T s.at_).kind,.str (ar T s.at_).text,.int .i64 (ar T s.at_).n,.int .i64 (ar T s.at_).pos]]))
  (nI:j5 (ar T s.at_).text nY= .nilFunc\/ ∃k,j5 (ar T s.at_).text nY=fn k/\(((ar T s.at_).kind==4)==((ar T s.at_).text==[40]))=false):
  W (oe (aq P ao) (.ptr r 0 0) (.ptr H0.next 0 0) (.ptr b 0 0) (.bool true) H) (fZ H0 r T ak br .zero (cS T 2 s)):=by
 have az:=bs.rd.lt;have iw:=J.aX ax;have wi:=J.aX bi;simp-implicitDefEqProofs(disch:=try exact af) only[oe,mr,reduceAdd,reduceLeDiff,reduceIte,aw];refine a6 (O_ H) ?_;rintro _ H1 ⟨rfl,rfl⟩;refine⟨(aR.push _ _).1,?_⟩;have aV:=aR.push H (.map nY);have rM:=V2 (ar T s.at_).text (J.ca H (.map nY));rcases nI with nI|⟨k,nI,Au⟩
 ·simp-implicitDefEqProofs(disch:=try exact af) only[oe,mr,reduceAdd,reduceLeDiff,reduceIte,aw,bi,rM,nI,ahC];exact J1 bs (bP.trans (aV.mut _)) (cp.aK aV) (aV.get ax)
 ·simp-implicitDefEqProofs(disch:=try exact af) only[oe,mr,reduceAdd,reduceLeDiff,reduceIte,aw,bi,rM,nI,V_,Au];exact J1 bs (bP.trans (aV.mut _)) (cp.aK aV) (aV.get ax)
theorem hN{t x:bl}(h: ¬t=x):(t==x)=false:=by simpa using h
theorem afa(t:bl):j5 t nY= .nilFunc\/ ∃k,j5 t nY=fn k:=by
 by_cases t1:t=[116,114,117,101]
 ·subst t1;exact .inr ⟨188,rfl⟩
 by_cases t2:t=[102,97,108,115,101]
 ·subst t2;exact .inr ⟨188,rfl⟩
 by_cases t3:t=[110,117,108,108]
 ·subst t3;exact .inr ⟨189,rfl⟩
 by_cases t4:t=[110,101,119]
 ·subst t4;exact .inr ⟨190,rfl⟩
 by_cases t5:t=[108,101,110]
 ·subst t5;exact .inr ⟨191,rfl⟩
 by_cases t6:t=[114,101,97,100]
 ·subst t6;exact .inr ⟨192,rfl⟩
 by_cases t7:t=[40]
 ·subst t7;exact .inr ⟨193,rfl⟩
 exact .inl (by simp[j5,nY,hN t1,hN t2,hN t3,hN t4,hN t5,hN t6,hN t7])
theorem abt{n:Nat}(aoM:K_ n)(wn:KL n)(Il:u2 n):KK (n+1):=by
 intro H r T ak br s ag fC e s' h;refine cP (λ_=>ais 0) ?_;have az:=ag.rd.lt;have de:=ag.cf.one;have hA:=ag.br.one;have aV:=aR.push H (.row false 11 [[.int .i64 0,.int .i64 0,.str [],.str [],.int .i64 0,.ap,.int .i64 0,.int .i64 0,.int .i64 0,.int .i64 0,.int .i64 0]]);simp-implicitDefEqProofs(disch:=try exact af) only[mr,reduceAdd,reduceLeDiff,reduceIte,aw];refine a6 (Bl (ag.rd.aK aV)) ?_;rintro _ H1 ⟨rfl,rfl⟩;refine⟨bN _,?_⟩;simp only[og] at h;by_cases al:s.aC=0
 ·rw[if_neg (by simpa using al)] at h;simp-implicitDefEqProofs(disch:=try exact af) only[mr,reduceAdd,reduceLeDiff,reduceIte,aw,al,bne_self_eq_false];refine a6 (mI (ag.rd.aK aV) (ag.cf.aK aV)) ?_;rintro _ bm ⟨rfl,aJ⟩;refine⟨aJ.1,?_⟩;have jT:=aJ.1;simp only[J.b2] at jT;have bB:=(aV.trans aJ).bX (.row false 4 [[.int .i64 (ar T s.at_).kind,.str (ar T s.at_).text,.int .i64 (ar T s.at_).n,.int .i64 (ar T s.at_).pos]]);have bi:=J.ca bm (.row false 4 [[.int .i64 (ar T s.at_).kind,.str (ar T s.at_).text,.int .i64 (ar T s.at_).n,.int .i64 (ar T s.at_).pos]]);have ax:=(aR.push bm (.row false 4 [[.int .i64 (ar T s.at_).kind,.str (ar T s.at_).text,.int .i64 (ar T s.at_).n,.int .i64 (ar T s.at_).pos]])).get (aJ.get (J.ca H _))
  have e2:=ag.aK bB;have bP:=bB.mut (· =r);have cI:=e2.rd;unfold ed at cI;by_cases aa:(ar T s.at_).kind=2
  ·rw[if_pos aa] at h;simp only[bF,dw] at h;obtain⟨rfl,rfl⟩:=h;have ib:=e2.rd.lt;have ia:bm.get H.next=some (.row false 11 [[.int .i64 0,.int .i64 0,.str [],.str [],.int .i64 0,.ap,.int .i64 0,.int .i64 0,.int .i64 0,.int .i64 0,.int .i64 0]]):=aJ.get (J.ca H _)
   have mZ:=ag.rd.aK (aV.trans aJ);unfold ed at mZ;simp-implicitDefEqProofs(disch:=try exact af) only[mr,reduceAdd,reduceLeDiff,reduceIte,aw,Tok.v,aa,beq_self_eq_true,mZ,de,hA,ia];refine a_.2 ?_;refine fZ.box (a:={kind:=1,n:=(ar T s.at_).n,pos:=(ar T s.at_).pos}) (kv:= .ap) (s':=aF s) (lo:=H.next+1) ag ?_ ?_ (bN _) (Nat.lt_succ_self _) (dP.nil _ _) _
   ·rw[<-aa];(repeat (first|exact bP|refine dC.bX ?_ _|refine dC.db (S:=(· =r)) ?_ (.inl rfl) _|refine dC.db ?_ (.inr (by(first|omega|(simp only[J.b2,J.e9];omega)))) _))
   ·rw[<-aa];(unfold ed;simp-implicitDefEqProofs(disch:=try exact af) only[dB,cI,aF,ga])
  ·rw[if_neg aa] at h;have hq:((ar T s.at_).kind==2)=false:=by simpa using aa
   by_cases U:(ar T s.at_).kind=1
   ·rw[if_pos U] at h;have ft:((ar T s.at_).kind==1)=true:=by simpa using U
    simp-implicitDefEqProofs(disch:=try exact af) only[mr,reduceAdd,reduceLeDiff,reduceIte,aw,Tok.v,hq,ft];refine a6 (aoM e2 fC e s' h) ?_;rintro v ct ⟨m4,fa,jc⟩;refine⟨m4.1,?_⟩;have fV:=m4.get ax Z;have ap4:=J.aX fV;obtain⟨cs,rfl,hlen,dN⟩:=jc.cells;have bz:List.take 11 cs=cs:=List.take_of_length_le Z;simp-implicitDefEqProofs(disch:=try exact af) only[mr,reduceAdd,reduceLeDiff,reduceIte,aw,fV,hlen,dN,List.append_nil,bz];exact a_.2 (fZ.ret ag (bP.trans m4) fa.rd (bN _) jc (by simp only[J.b2];omega) _)
   ·rw[if_neg U] at h;have ft:((ar T s.at_).kind==1)=false:=by simpa using U
    by_cases s5:(ar T s.at_).kind=3\/(ar T s.at_).kind=4
    ·rw[if_pos s5] at h;have go:W (oe (aq P ao) (.ptr r 0 0) (.ptr H.next 0 0) (.ptr bm.next 0 0) (.bool true) (bm.push (.row false 4 [[.int .i64 (ar T s.at_).kind,.str (ar T s.at_).text,.int .i64 (ar T s.at_).n,.int .i64 (ar T s.at_).pos]]))) (fZ H r T ak br e s'):=by
      by_cases am:(ar T s.at_).kind=4
      ·have ll:((ar T s.at_).kind==4)=true:=by simpa using am
       simp only[ll,bC] at h;by_cases t7:(ar T s.at_).text=[40]
       ·simp only[t7,beq_self_eq_true,bC] at h;exact yM ag bP e2.rd ax Z bi (k:=193) (by rw[t7];rfl) (by simp[am,t7]) λhK pc=>aa_ Il pc fC h
       ·have Y8:((ar T s.at_).text==[40])=false:=by simpa using t7
        simp only[Y8,bj,bF,dw] at h;obtain⟨rfl,rfl⟩:=h;refine RI ag bP e2.rd ax Z bi ?_;rcases afa (ar T s.at_).text with ah|⟨k,ah⟩
        ·exact .inl ah
        ·exact .inr ⟨k,ah,by rw[ll,Y8];rfl⟩
      ·have ll:((ar T s.at_).kind==4)=false:=by simpa using am
       simp only[ll,bj] at h;have Cf: ∀t:bl,(ar T s.at_).text=t->t≠[40]->(((ar T s.at_).kind==4)==((ar T s.at_).text==[40]))=true:=by
        intro t bz dM;rw[ll,bz,show(t==[40])=false by simpa using dM];rfl
       by_cases t1:(ar T s.at_).text=[116,114,117,101]
       ·have bZ:some (vH T s)=some (e,s'):=by rw[<-h];simp[t1]
        simp only[bF] at bZ;refine yM ag bP e2.rd ax Z bi (k:=188) (by rw[t1];rfl) (Cf _ t1 cm) λhK pc=> ?_
        have:=Qd pc;rw[bZ] at this;exact this
       by_cases t2:(ar T s.at_).text=[102,97,108,115,101]
       ·have bZ:some (vH T s)=some (e,s'):=by rw[<-h];simp[t2]
        simp only[bF] at bZ;refine yM ag bP e2.rd ax Z bi (k:=188) (by rw[t2];rfl) (Cf _ t2 cm) λhK pc=> ?_
        have:=Qd pc;rw[bZ] at this;exact this
       by_cases t3:(ar T s.at_).text=[110,117,108,108]
       ·have bZ:some (Cl T s)=some (e,s'):=by rw[<-h];simp[t3]
        simp only[bF] at bZ;refine yM ag bP e2.rd ax Z bi (k:=189) (by rw[t3];rfl) (Cf _ t3 cm) λhK pc=> ?_
        have:=adb pc;rw[bZ] at this;exact this
       by_cases t4:(ar T s.at_).text=[110,101,119]
       ·have bZ:sH T n s=some (e,s'):=by rw[<-h];simp[t4]
        exact yM ag bP e2.rd ax Z bi (k:=190) (by rw[t4];rfl) (Cf _ t4 cm) λhK pc=>wn pc fC e s' bZ
       by_cases t5:(ar T s.at_).text=[108,101,110]
       ·have bZ:((ki T n [40] [41] (aF s)).bind λp=>some (.mk {kind:=10,pos:=(ar T s.at_).pos} [p.1],p.2))=some (e,s'):=by rw[<-h];simp[t5]
        simp only[eW] at bZ;obtain⟨⟨aI,s1⟩,g1,g2⟩:=bZ;simp only[bF,dw] at g2;obtain⟨rfl,rfl⟩:=g2;exact yM ag bP e2.rd ax Z bi (k:=191) (by rw[t5];rfl) (Cf _ t5 cm) λhK pc=>aaO Il pc fC g1
       by_cases t6:(ar T s.at_).text=[114,101,97,100]
       ·have bZ:some (pU T s)=some (e,s'):=by rw[<-h];simp[t6]
        simp only[bF] at bZ;refine yM ag bP e2.rd ax Z bi (k:=192) (by rw[t6];rfl) (Cf _ t6 cm) λhK pc=> ?_
        have:=adj pc;rw[bZ] at this;exact this
       have bZ:some (bp.zero,cS T 2 s)=some (e,s'):=by rw[<-h];simp[hN t1,hN t2,hN t3,hN t4,hN t5,hN t6]
       simp only[bF,dw] at bZ;obtain⟨rfl,rfl⟩:=bZ;refine RI ag bP e2.rd ax Z bi ?_;by_cases t7:(ar T s.at_).text=[40]
       ·exact .inr ⟨193,by rw[t7];rfl,by rw[ll,t7];rfl⟩
       ·exact .inl (by simp[j5,nY,hN t1,hN t2,hN t3,hN t4,hN t5,hN t6,hN t7])
     rcases s5 with ae|am
     ·have h_:((ar T s.at_).kind==3)=true:=by simpa using ae
      simp-implicitDefEqProofs(disch:=try exact af) only[mr,reduceAdd,reduceLeDiff,reduceIte,aw,Tok.v,hq,ft,h_];exact go
     ·have h_:((ar T s.at_).kind==3)=false:=by simp[am]
      have ll:((ar T s.at_).kind==4)=true:=by simpa using am
      simp-implicitDefEqProofs(disch:=try exact af) only[mr,reduceAdd,reduceLeDiff,reduceIte,aw,Tok.v,hq,ft,h_,ll];exact go
    ·rw[if_neg s5] at h;simp only[bF,dw] at h;obtain⟨rfl,rfl⟩:=h;have h_:((ar T s.at_).kind==3)=false:=by simp;omega
     have ll:((ar T s.at_).kind==4)=false:=by simp;omega
     simp-implicitDefEqProofs(disch:=try exact af) only[oe,mr,reduceAdd,reduceLeDiff,reduceIte,aw,Tok.v,hq,ft,h_,ll];exact J1 ag bP e2.rd ax
 ·rw[if_pos (by simpa using al)] at h;simp only[bF,dw] at h;obtain⟨rfl,rfl⟩:=h;have e1:(s.aC != 0)=true:=by simpa using al
  simp-implicitDefEqProofs(disch:=try exact af) only[mr,reduceAdd,reduceLeDiff,reduceIte,aw,e1];exact a_.2 ⟨aV.mut _,ag.aK aV,ea.leaf _ _ {kind:=0}⟩
end
section
theorem Ke{N:Nat}{H0 H:J}{r:Nat}{T:List Tok}{ak br:I}{s0 s:aA}(bs:e6 H0 r T ak br s0)(bP:cC r H0 H)(cp:ed H r ak br s){b3:Nat}{cs gn:List I}{e:bp}(ck:H.get H0.next=some (.row false 11 [gn]))(cn:gn.length=11)(eO:H.get b3=some (.row false 11 [cs]))(ae:H0.next<b3)
  (he:ea H (λl=>H0.next<l/\l≠b3) e (.agg cs)):W (xa (aq P ao) N (.ptr H0.next 0 0) (.ptr b3 0 0) H) (fZ H0 r T ak br e s):=by
 have az:=bs.rd.lt;have l1:=J.aX ck;have CZ:=J.aX eO;obtain⟨uA,jb,hlen,dN⟩:=he.cells;cases jb;have bz:List.take 11 cs=cs:=List.take_of_length_le Z;have bd:List.drop 11 gn=[]:=List.drop_of_length_le Z;simp-implicitDefEqProofs(disch:=try exact af) only[xa,qI,DX,o5,reduceAdd,reduceLeDiff,reduceIte,aw,ck,eO,hlen,dN,List.append_nil,bz,bd];have fr:=bP.db (.inr (bN _)) (.row false 11 [cs]);refine a_.2 ⟨fr,bs.mut fr ?_,he.bo (e_.set _ Z λl h=>by unfold bI;omega) e _⟩;unfold ed at cp ⊢;rw[J.get_set_other Z];exact cp
theorem PO{N:Nat}(aT: ∀k,k<N->u2 k){H0:J}{r:Nat}{T:List Tok}{ak br:I}{s0:aA}(bs:e6 H0 r T ak br s0)(fC:br≠ .ap){b3 M:Nat}(ae:H0.next<b3)(jA:H0.next<M)(anZ:M≠b3):
  ∀(n m:Nat),n<N->n<m-> ∀(H:J) (s:aA) (e:bp) (cs gn:List I),cC r H0 H->ed H r ak br s->H.get H0.next=some (.row false 11 [gn])->gn.length=11->H.get b3=some (.row false 11 [cs])->H.get M=some (.map sy)->
   ea H (λl=>H0.next<l/\l≠b3) e (.agg cs)-> ∀(cN:bp) (s':aA),jl T n e s=some (cN,s')->
   W (xb (aq P ao) N m (.ptr r 0 0) (.ptr H0.next 0 0) (.ptr b3 0 0) (.map M) H) (fZ H0 r T ak br cN s')
 |0,m,dU,hm,H,s,e,cs,gn,bP,cp,ck,cn,eO,If,he,cN,s',h=>by simp[jl] at h
 |n+1,0,dU,hm,H,s,e,cs,gn,bP,cp,ck,cn,eO,If,he,cN,s',h=>Z
 |n+1,m+1,dU,hm,H,s,e,cs,gn,bP,cp,ck,cn,eO,If,he,cN,s',h=>by
  have az:=bs.rd.lt;have ag:=bs.mut bP cp;have CZ:=J.aX eO;obtain⟨uA,jb,hlen,dN⟩:=he.cells;cases jb;have bz:List.take 11 cs=cs:=List.take_of_length_le Z;simp only[jl] at h;simp only[xb];rw[DX];refine a6 (Bl cp) ?_;rintro _ H1 ⟨rfl,rfl⟩;refine⟨bN _,?_⟩;by_cases al:s.aC=0
  ·have e1:(s.aC==0)=true:=by simpa using al
   simp-implicitDefEqProofs(disch:=try exact af) only[qI,o5,reduceAdd,reduceLeDiff,reduceIte,aw,al,bne_self_eq_false,Bool.not_false];refine gP (mI cp ag.cf) ?_;rintro _ bm ⟨rfl,aJ⟩;refine⟨aJ.1,?_⟩;cases ah:(ar T s.at_).kind==4 with
   |false=>
    simp only[e1,ah,Bool.and_false,bj,bF,dw] at h;obtain⟨rfl,rfl⟩:=h;simp-implicitDefEqProofs(disch:=try exact af) only[qI,o5,reduceAdd,reduceLeDiff,reduceIte,aw,Tok.v,ah];exact Ke bs (bP.trans (aJ.mut _)) (cp.aK aJ) (aJ.get ck) cn (aJ.get eO) ae (he.bo (e_.aK aJ λ_ h=>h) e _)
   |true=>
    simp only[e1,ah,Bool.and_self,bC] at h;simp-implicitDefEqProofs(disch:=try exact af) only[qI,o5,reduceAdd,reduceLeDiff,reduceIte,aw,Tok.v,ah];refine a6 (mI (cp.aK aJ) (ag.cf.aK aJ)) ?_;rintro _ cT ⟨rfl,bB⟩;refine⟨bB.1,?_⟩;have bK:=aJ.trans bB;have rM:=akz (ar T s.at_).text (bK.get If);have Eo:=bK.get eO;have apZ:=J.aX Eo;have Fb:=bK.1;have jc:=he.bo (e_.aK bK λ_ h=>h) e _;have fa:=ag.aK bK;have yi:=bP.trans (bK.mut _);have next: ∀(dp:J) (v:I) (hE:bp) (mG:aA),rL (λl=>H0.next<l/\l≠b3) cT r T ak br hE mG v dp->jl T n hE mG=some (cN,s')->cT.next<=dp.next/\W (qI (xb (aq P ao) N m) (.ptr b3 0 0) (.ptr r 0 0) (.ptr H0.next 0 0) (.map M) v dp) (fZ H0 r T ak br cN s'):=by
     rintro dp v hE mG ⟨m5,fg,pa⟩ aB;refine⟨m5.1,?_⟩;obtain⟨bU,rfl,mi,lJ⟩:=pa.cells;have Hy:=m5.get Eo Z;have amF:=J.aX Hy;have bd:List.drop 11 cs=[]:=List.drop_of_length_le Z;simp-implicitDefEqProofs(disch:=try exact af) only[qI,o5,reduceAdd,reduceLeDiff,reduceIte,aw,Hy,mi,lJ,List.append_nil,bd];have m6:=(yi.trans m5).db (.inr (Nat.le_of_lt ae)) (.row false 11 [bU]);refine PO aT bs fC ae jA anZ n m Z Z _ mG hE bU gn m6 ?_ ?_ cn (J.get_set_same amF) ?_ (pa.bo (e_.set _ Z λl h=>h) hE _) cN s' aB
     ·have:=fg.rd;unfold ed at this ⊢;rw[J.get_set_other Z];exact this
     ·rw[J.get_set_other Z];exact m5.get (bK.get ck) Z
     ·rw[J.get_set_other Z];exact m5.get (bK.get If) Z
    by_cases t1:(ar T s.at_).text=[46]
    ·simp only[t1,beq_self_eq_true,bC] at h;have nI:j5 (ar T s.at_).text sy=fn 185:=by rw[t1];rfl
     simp-implicitDefEqProofs(disch:=try exact af) only[o5,reduceAdd,reduceLeDiff,reduceIte,aw,Tok.v,rM,nI,VM,Eo,bz];simp only[fn,sx,List.nil_append,List.append_nil];refine a6 (abn (ok:=λl=>H0.next<l/\l≠b3) fa jc Z (λl az=>Z)) ?_;intro v dp bw;exact next dp v _ _ bw h
    ·by_cases t2:(ar T s.at_).text=[91]
     ·simp only[t2,beq_self_eq_true,bC,show(([91]:bl)==[46])=false by rfl,bj,eW] at h;obtain⟨⟨aI,s1⟩,g1,g2⟩:=h;have nI:j5 (ar T s.at_).text sy=fn 186:=by rw[t2];rfl
      simp-implicitDefEqProofs(disch:=try exact af) only[o5,reduceAdd,reduceLeDiff,reduceIte,aw,Tok.v,rM,nI,VM,Eo,bz];simp only[fn,sx,List.nil_append,List.append_nil];refine a6 (ac4 (aT n Z) (ok:=λl=>H0.next<l/\l≠b3) fa fC jc Z (λl az=>Z) g1) ?_;intro v dp bw;exact next dp v _ _ bw g2
     ·simp only[hN t1,hN t2,bj,bF,dw] at h;obtain⟨rfl,rfl⟩:=h;have nI:j5 (ar T s.at_).text sy= .nilFunc:=by simp[j5,sy,hN t1,hN t2]
      simp-implicitDefEqProofs(disch:=try exact af) only[qI,o5,reduceAdd,reduceLeDiff,reduceIte,aw,Tok.v,rM,nI,aho];exact Ke bs yi fa.rd (bK.get ck) cn Eo ae jc
  ·have e1:(s.aC==0)=false:=by simpa using al
   have we:(s.aC != 0)=true:=by simpa using al
   simp only[e1,Bool.false_and,bj,bF,dw] at h;obtain⟨rfl,rfl⟩:=h;simp-implicitDefEqProofs(disch:=try exact af) only[qI,o5,reduceAdd,reduceLeDiff,reduceIte,aw,we,Bool.not_true];exact Ke bs bP cp ck cn eO ae he
theorem abj{n:Nat}(wn:KK n)(Il: ∀k,k<=n->u2 k):KJ (n+1):=by
 intro H r T ak br s ag fC e s' h;refine cP (λ_=>air (n+1)) ?_;have az:=ag.rd.lt;simp only[rB,eW] at h;obtain⟨⟨aI,s1⟩,U,aa⟩:=h;have aV:=aR.push H (.row false 11 [[.int .i64 0,.int .i64 0,.str [],.str [],.int .i64 0,.ap,.int .i64 0,.int .i64 0,.int .i64 0,.int .i64 0,.int .i64 0]]);simp-implicitDefEqProofs(disch:=try exact af) only[qI,o5,reduceAdd,reduceLeDiff,reduceIte,aw];refine a6 (wn (ag.aK aV) fC aI s1 U) ?_;rintro v bm ⟨m2,cJ,fR⟩;refine⟨m2.1,?_⟩;have hy:=m2.1;simp only[J.b2] at hy;obtain⟨cs,rfl,hlen,dN⟩:=fR.cells;simp-implicitDefEqProofs(disch:=try exact af) only[qI,o5,reduceAdd,reduceLeDiff,reduceIte,aw,hlen,dN,List.append_nil]
 have bB:=aR.push bm (.row false 11 [cs]);refine a6 (aab _) ?_;rintro _ ct ⟨rfl,rfl⟩;refine⟨(aR.push _ _).1,?_⟩;have bK:=bB.bX (.map sy);simp only[qI,o5,J.b2];have ck:=m2.get (J.ca H (.row false 11 [[.int .i64 0,.int .i64 0,.str [],.str [],.int .i64 0,.ap,.int .i64 0,.int .i64 0,.int .i64 0,.int .i64 0,.int .i64 0]])) Z;refine PO (N:=n+1) (λk ah=>Il k Z) ag fC (b3:=bm.next) (M:=bm.next+1) Z Z Z n (n+1) Z Z _ s1 aI cs _ (((aV.mut _).trans m2).trans (bK.mut _)) (cJ.rd.aK bK) (bK.get ck) rfl ?_ ?_ ?_ e s' aa
 ·simp-implicitDefEqProofs(disch:=try exact af) only[dB]
 ·simp-implicitDefEqProofs(disch:=try exact af) only[dB]
 ·exact fR.bo (λl ro els dD aZ=>by
   have:=J.aX aZ;unfold bI at dD;simp only[J.b2] at dD;exact⟨⟨Z,Z⟩,bK.get aZ⟩) aI _
theorem acM{n:Nat}(aT:BG n){H0 H:J}{r:Nat}{T:List Tok}{ak br:I}{s0 s:aA}(bs:e6 H0 r T ak br s0)(fC:br≠ .ap)(bP:cC r H0 H)(cp:ed H r ak br s)(ax:H.get H0.next=some (.row false 11 [[.int .i64 0,.int .i64 0,.str [],.str [],.int .i64 0,.ap,.int .i64 0,.int .i64 0,.int .i64 0,.int .i64 0,.int .i64 0]])){eB:Nat}(am:H0.next<eB){x:bl}{k:Int}(fV:H.get eB=some (.row false 2 [[.str x,.int .i64 k]]))
  {cN:bp} {s':aA} (h:rS T (n+1) x k s=some (cN,s')):W (va (aq P ao) (.ptr eB 0 0) H (.ptr r 0 0) (.ptr H0.next 0 0) (.int .i64 (ar T s.at_).pos)) (fZ H0 r T ak br cN s'):=by
 have az:=bs.rd.lt;have de:=bs.cf.one;have hA:=bs.br.one;have ag:=bs.mut bP cp;have hle:=bP.1;have yc:=J.aX fV;simp only[rS] at h;simp-implicitDefEqProofs(disch:=try exact af) only[va,qC,qD,qU,reduceAdd,reduceLeDiff,reduceIte,aw,fV];refine a6 (Gf ag x) ?_;rintro _ H1 ⟨rfl,m1,du⟩;refine⟨m1.1,?_⟩;have dQ:=m1.get ax Z;have amo:=m1.get fV Z;have E9:=J.aX dQ;cases bt:(eI T x s).1 with
 |false=>
  simp only[bt,bj,bF,dw] at h;obtain⟨rfl,rfl⟩:=h;simp-implicitDefEqProofs(disch:=try exact af) only[va,qC,qD,qU,reduceAdd,reduceLeDiff,reduceIte,aw,Bool.not_false,dQ];exact a_.2 (fZ.ret bs (bP.trans m1) du.rd (bN _) (ea.leaf _ (bI (H0.next+1)) {kind:=0}) (Nat.lt_succ_self _) _)
 |true=>
  simp only[bt,bC,eW] at h;obtain⟨⟨aI,s1⟩,U,aa⟩:=h;simp only[bF,dw] at aa;obtain⟨rfl,rfl⟩:=aa;simp-implicitDefEqProofs(disch:=try exact af) only[va,qC,qD,qU,reduceAdd,reduceLeDiff,reduceIte,aw,Bool.not_true];refine a6 (aT du fC aI s1 U) ?_;rintro v bm ⟨m2,cJ,fR⟩;refine⟨m2.1,?_⟩;have sc:=m1.1;have hy:=m2.1;have ck:=m2.get dQ Z;have WN:=m2.get amo Z;have l1:=J.aX ck;have amG:=J.aX WN;obtain⟨cs,rfl,hlen,dN⟩:=fR.cells;have bz:List.take 11 cs=cs:=List.take_of_length_le Z;have aM: ∀l,dK P l 96 1 [(0,.agg cs)]=some (.aN l 0 1 11 (some 1),.row false 11 [cs]):=λl=>jP l cs hlen dN
  have cI:=cJ.rd;unfold ed at cI;have ib:=cJ.rd.lt;replace bP:=(bP.trans m1).trans m2;simp-implicitDefEqProofs(disch:=try exact af) only[va,qC,qD,qU,reduceAdd,reduceLeDiff,reduceIte,aw,hlen,dN,List.append_nil,bz,aM,cI,de,hA,ck,WN];refine a_.2 ?_;refine rL.fin (ok:=bI H0.next) (a:={kind:=k,pos:=(ar T s.at_).pos}) (kv:= .aN (bm.next+1) 0 1 11 (some 1)) (s':=ga s1) bs ?_ ?_ (dP.qF (ro:=false) ?_ (by unfold bI;omega) (fR.new ?_ λl h=>by unfold bI;omega))
  ·(repeat (first|exact bP|refine dC.bX ?_ _|refine dC.db (S:=(· =r)) ?_ (.inl rfl) _|refine dC.db ?_ (.inr (by(first|omega|(simp only[J.b2,J.e9];omega)))) _))
  ·(unfold ed;simp-implicitDefEqProofs(disch:=try exact af) only[dB,cI,aF,ga])
  ·simp-implicitDefEqProofs(disch:=try exact af) only[dB]
  ·exact dC.db (S:=λl=>l<_) ((dC.db (S:=λl=>l<_) ((dC.refl _ _).bX _) (.inl Z) _).bX _) (.inl Z) _
theorem Q4{n N:Nat}(aT:BG n){L:I->I->I->I->I->J->O}{H0 H:J}{r:Nat}{T:List Tok}{ak br:I}{s0 s:aA}(bs:e6 H0 r T ak br s0)(fC:br≠ .ap)(bP:cC r H0 H)(cp:ed H r ak br s)(ax:H.get H0.next=some (.row false 11 [[.int .i64 0,.int .i64 0,.str [],.str [],.int .i64 0,.ap,.int .i64 0,.int .i64 0,.int .i64 0,.int .i64 0,.int .i64 0]])){iM:Nat}{els:List (List I)}(bJ:H0.next<iM)(s7:H.get iM=some (.row false 2 els)){i:Nat}(be:i<2){x:bl}{k:Int}(kN:els[i]? =some [.str x,.int .i64 k])
  {cN:bp} {s':aA} (am5:b7 T s 4 x=true->rS T (n+1) x k s=some (cN,s')) (jf:b7 T s 4 x=false-> ∀H',aR H H'->W (L (.ptr r 0 0) (.ptr H0.next 0 0) (.aN iM 0 2 2 (some 2)) (.int .i64 2) (.int .i64 ((i+1:Nat):Int)) H') (fZ H0 r T ak br cN s')):
  W (vb (aq P ao) N L (.ptr r 0 0) (.ptr H0.next 0 0) (.aN iM 0 2 2 (some 2)) (.int .i64 2) (.int .i64 (i:Int)) H) (fZ H0 r T ak br cN s'):=by
 have az:=bs.rd.lt;have ag:=bs.mut bP cp;have E_:=J.aX s7;have hle:=bP.1;have CX:((i:Int)<2):=Z;have amA:((i:Int)<((2:Nat):Int)):=Z;have M6:(0:Int)<=(i:Int):=Z;have aoC:((i:Int)).toNat=i:=Z;have Ig:dS P 200 (.aN iM 0 2 2 (some 2)) (.int .i64 (i:Int))=some (.ptr iM (0+((i:Int)).toNat) 0):=LM M6 amA;rw[aoC,Nat.zero_add] at Ig;simp-implicitDefEqProofs(disch:=try exact af) only[qC,qD,vb,qU,reduceAdd,reduceLeDiff,reduceIte,aw,CX,decide_true,Ig,s7,kN];have aV:=aR.push H (.row false 2 [[.str x,.int .i64 k]]);refine a6 (mI (cp.aK aV) (ag.cf.aK aV)) ?_;rintro _ bm ⟨rfl,aJ⟩;refine⟨aJ.1,?_⟩;have bi:=aJ.get (J.ca H (.row false 2 [[.str x,.int .i64 k]]))
 have jT:=aJ.1;simp only[J.b2] at jT;have bB:=aV.trans aJ;simp-implicitDefEqProofs(disch:=try exact af) only[qC,qD,vb,qU,reduceAdd,reduceLeDiff,reduceIte,aw,Tok.v,bi];refine a6 (rm (cp.aK bB) (ag.cf.aK bB) 4 x) ?_;rintro _ ct ⟨rfl,bK⟩;refine⟨bK.1,?_⟩;have c8:=bB.trans bK;cases ia:b7 T s 4 x with
 |true=>
  simp-implicitDefEqProofs(disch:=try exact af) only[qC,qD,vb,qU,reduceAdd,reduceLeDiff,reduceIte,aw];exact acM aT bs fC (bP.trans (c8.mut _)) (cp.aK c8) (c8.get ax) Z (bK.get bi) (am5 ia)
 |false=>
  have hw:IntKind.i64.wrap ((i:Int)+1)=((i+1:Nat):Int):=by rw[wrap_i64 Z Z];simp
  simp-implicitDefEqProofs(disch:=try exact af) only[qC,qD,vb,qU,reduceAdd,reduceLeDiff,reduceIte,aw,hw];exact jf ia _ c8
theorem acN{n:Nat}(C5: ∀k,k<=n->BG k)(Ns:KJ n):BG (n+1):=by
 intro H r T ak br s ag fC e s' h;refine cP (λ_=>aio 3) ?_;have az:=ag.rd.lt;simp only[pL] at h;have aV:=aR.push H (.row false 11 [[.int .i64 0,.int .i64 0,.str [],.str [],.int .i64 0,.ap,.int .i64 0,.int .i64 0,.int .i64 0,.int .i64 0,.int .i64 0]]);have aJ:=aV.bX (.row false 2 [[.str [45],.int .i64 12],[.str [33],.int .i64 13]]);simp-implicitDefEqProofs(disch:=try exact af) only[va,qC,qD,qU,reduceAdd,reduceLeDiff,reduceIte,aw];have ax:((H.push (.row false 11 [[.int .i64 0,.int .i64 0,.str [],.str [],.int .i64 0,.ap,.int .i64 0,.int .i64 0,.int .i64 0,.int .i64 0,.int .i64 0]])).push (.row false 2 [[.str [45],.int .i64 12],[.str [33],.int .i64 13]])).get H.next=some (.row false 11 [[.int .i64 0,.int .i64 0,.str [],.str [],.int .i64 0,.ap,.int .i64 0,.int .i64 0,.int .i64 0,.int .i64 0,.int .i64 0]]):=by simp-implicitDefEqProofs(disch:=try exact af) only[dB]
 have s7:((H.push (.row false 11 [[.int .i64 0,.int .i64 0,.str [],.str [],.int .i64 0,.ap,.int .i64 0,.int .i64 0,.int .i64 0,.int .i64 0,.int .i64 0]])).push (.row false 2 [[.str [45],.int .i64 12],[.str [33],.int .i64 13]])).get (H.next+1)=some (.row false 2 [[.str [45],.int .i64 12],[.str [33],.int .i64 13]]):=by simp-implicitDefEqProofs(disch:=try exact af) only[dB]
 cases n with
 |zero=>cases U:b7 T s 4 [45]<;>cases aa:b7 T s 4 [33]<;>simp[U,aa,rS,rB] at h
 |succ n=>
  simp only[BN];refine Q4 (C5 n Z) ag fC (aJ.mut _) (ag.rd.aK aJ) ax Z s7 (i:=0) Z rfl (λU=>by rw[U] at h;exact h) λU cT bB=> ?_
  rw[U] at h;simp only[bj] at h;have bK:=aJ.trans bB;refine Q4 (C5 n Z) ag fC (bK.mut _) (ag.rd.aK bK) (bB.get ax) Z (bB.get s7) (i:=1) Z rfl (λaa=>by rw[aa] at h;exact h) λaa dp c8=> ?_
  rw[aa] at h;simp only[bj] at h;have fc:=bK.trans c8;have gz:=(bB.trans c8).get ax;have et: ¬(((1+1:Nat):Int)<2):=Z;simp-implicitDefEqProofs(disch:=try exact af) only[vb,qD,qC,reduceAdd,reduceLeDiff,reduceIte,aw,et,decide_false];rw[BM];refine a6 (Ns (ag.aK fc) fC e s' h) ?_;rintro v fX ⟨m7,oE,qZ⟩;refine⟨m7.1,?_⟩;have s6:=m7.get gz Z;have Yv:=J.aX s6;have aok:=fc.1;have ye:=J.aX gz;obtain⟨cs,rfl,hlen,dN⟩:=qZ.cells;have bz:List.take 11 cs=cs:=List.take_of_length_le Z;simp-implicitDefEqProofs(disch:=try exact af) only[va,qC,qD,qU,reduceAdd,reduceLeDiff,reduceIte,aw,s6,hlen,dN,List.append_nil,bz]
  exact a_.2 (fZ.ret ag ((fc.mut _).trans m7) oE.rd (bN _) qZ Z _)
end
section
theorem af7{N:Nat}{H0 H:J}{r:Nat}{T:List Tok}{ak br:I}{s0 s:aA}(bs:e6 H0 r T ak br s0)(bP:cC r H0 H)(cp:ed H r ak br s){b3:Nat}{cs gn:List I}{e:bp}(ck:H.get H0.next=some (.row false 11 [gn]))(cn:gn.length=11)(eO:H.get b3=some (.row false 11 [cs]))(ae:H0.next<b3)
  (he:ea H (λl=>H0.next<l/\l≠b3) e (.agg cs)):W (y7 (aq P ao) N (.ptr H0.next 0 0) (.ptr b3 0 0) H) (fZ H0 r T ak br e s):=by
 have az:=bs.rd.lt;have l1:=J.aX ck;have CZ:=J.aX eO;obtain⟨uA,jb,hlen,dN⟩:=he.cells;cases jb;have bz:List.take 11 cs=cs:=List.take_of_length_le Z;have bd:List.drop 11 gn=[]:=List.drop_of_length_le Z;simp-implicitDefEqProofs(disch:=try exact af) only[y7,sJ,tO,sD,sE,BL,sF,sY,reduceAdd,reduceLeDiff,reduceIte,aw,ck,eO,hlen,dN,List.append_nil,bz,bd];have fr:=bP.db (.inr (bN _)) (.row false 11 [cs]);refine a_.2 ⟨fr,bs.mut fr ?_,he.bo (e_.set _ Z λl h=>by unfold bI;omega) e _⟩;unfold ed at cp ⊢;rw[J.get_set_other Z];exact cp
theorem R7{N:Nat}(aT: ∀k,k<N->mN k){H0:J}{r:Nat}{T:List Tok}{ak br:I}{s0:aA}(bs:e6 H0 r T ak br s0)(fC:br≠ .ap){lev:Nat}(oX:lev<5){b3:Nat}(ae:H0.next<b3):
  ∀(n m:Nat),n<N->n<m-> ∀(H:J) (s:aA) (e:bp) (cs gn:List I),cC r H0 H->ed H r ak br s->H.get H0.next=some (.row false 11 [gn])->gn.length=11->H.get b3=some (.row false 11 [cs])->
   ea H (λl=>H0.next<l/\l≠b3) e (.agg cs)-> ∀(cN:bp) (s':aA),lM T n lev e s=some (cN,s')->
   W (y8 (aq P ao) N m (.ptr r 0 0) (.int .i64 lev) (.ptr H0.next 0 0) (.ptr b3 0 0) (.int .i64 (ml T lev s)) H) (fZ H0 r T ak br cN s')
 |0,m,dU,hm,H,s,e,cs,gn,bP,cp,ck,cn,eO,he,cN,s',h=>by simp[lM] at h
 |n+1,0,dU,hm,H,s,e,cs,gn,bP,cp,ck,cn,eO,he,cN,s',h=>Z
 |n+1,m+1,dU,hm,H,s,e,cs,gn,bP,cp,ck,cn,eO,he,cN,s',h=>by
  have az:=bs.rd.lt;have ag:=bs.mut bP cp;have CZ:=J.aX eO;obtain⟨uA,jb,hlen,dN⟩:=he.cells;cases jb;have bz:List.take 11 cs=cs:=List.take_of_length_le Z;have bd:List.drop 11 cs=[]:=List.drop_of_length_le Z;have de:=bs.cf.one;have hA:=bs.br.one;simp only[lM] at h;simp only[y8];by_cases ah:ml T lev s=0
  ·rw[if_pos ah] at h;simp only[bF,dw] at h;obtain⟨rfl,rfl⟩:=h;have e3:(ml T lev s != 0)=false:=by simpa using ah
   simp-implicitDefEqProofs(disch:=try exact af) only[BL,sE,sD,reduceAdd,reduceLeDiff,reduceIte,aw,e3];exact af7 bs bP cp ck cn eO ae he
  ·rw[if_neg ah,eW] at h;obtain⟨⟨aI,s1⟩,U,aa⟩:=h;have e3:(ml T lev s != 0)=true:=by simpa using ah
   simp-implicitDefEqProofs(disch:=try exact af) only[sJ,tO,sD,sE,BL,sF,sY,reduceAdd,reduceLeDiff,reduceIte,aw,e3];refine a6 (mI cp ag.cf) ?_;rintro _ H1 ⟨rfl,aV⟩;refine⟨aV.1,?_⟩;have vP:=cp.aK aV;have cI:=vP;unfold ed at cI;have ib:=vP.lt;obtain⟨m2,mW⟩:=qu vP (aF s);have hw:IntKind.i64.wrap ((lev:Int)+1)=((lev+1:Nat):Int):=by rw[wrap_i64 Z Z];simp
   simp-implicitDefEqProofs(disch:=try exact af) only[sJ,tO,sD,sE,sF,sY,reduceAdd,reduceLeDiff,reduceIte,aw,Tok.v,cI,de,hA,hw];have C_:=(bP.trans (aV.mut _)).trans m2;have cJ:=bs.mut C_ mW;refine a6 (aT n Z cJ fC (lev+1) Z aI s1 U) ?_;rintro v cT ⟨m3,e2,mx⟩;refine⟨m3.1,?_⟩;have L8:=m2.get (aV.get eO) Z;have WL:=m3.get L8 Z;have apY:=J.aX WL;have s8:=m3.1;have sc:=aV.1;simp only[J.e9] at s8 mx;obtain⟨bU,rfl,mi,lJ⟩:=mx.cells;have aM: ∀l,dK P l 96 2 [(0,.agg cs),(1,.agg bU)]=some (.aN l 0 2 11 (some 2),.row false 11 [cs,bU]):=λl=>B7 l cs bU hlen dN mi lJ
   have bi:=he.same;have ao0:=C_.trans m3;have amy:ea cT (λl=>H0.next<l/\l≠b3) e (.agg cs):=he.mut ((aV.mut _|>.trans m2).trans m3) Z λ_ h=>h
   have amn:(H1.set r (.row false 6 [[ak,.int .i64 (IntKind.i64.wrap (s.at_+1)),.int .i64 s.bR,br,.int .i64 s.aC,.int .i64 s.cv]])).get b3=some (.row false 11 [cs]):=L8;simp-implicitDefEqProofs(disch:=try exact af) only[sJ,sD,sE,sF,sY,reduceAdd,reduceLeDiff,reduceIte,aw,WL,amn,bz,bd,aM,bi,Bool.and_true,Bool.and_self];rw[tO];have W3:=e2.rd;have yi:cC r H0 ((cT.push (.row false 11 [cs,bU])).set b3 (.row false 11 [[.int .i64 (ml T lev s),.int .i64 0,.str [],.str [],.int .i64 0,.aN cT.next 0 2 11 (some 2),.int .i64 (ar T s.at_).pos,.int .i64 0,.int .i64 0,.int .i64 0,.int .i64 0]])):=(ao0.bX _).db (.inr (Nat.le_of_lt ae)) _
   have zZ:ed ((cT.push (.row false 11 [cs,bU])).set b3 (.row false 11 [[.int .i64 (ml T lev s),.int .i64 0,.str [],.str [],.int .i64 0,.aN cT.next 0 2 11 (some 2),.int .i64 (ar T s.at_).pos,.int .i64 0,.int .i64 0,.int .i64 0,.int .i64 0]])) r ak br s1:=by
    unfold ed at W3 ⊢;rw[J.get_set_other Z,J.gD Z];exact W3
   refine a6 (QF (bs.mut yi zZ) fC lev oX) ?_;rintro _ dp ⟨rfl,c8⟩;refine⟨c8.1,?_⟩;simp only[sJ];have aml:dp.get H0.next=some (.row false 11 [gn]):=by
    refine c8.get ?_;rw[J.get_set_other Z,J.gD Z];exact m3.get (m2.get (aV.get ck) Z) Z
   have Hy:dp.get b3=some (.row false 11 [f6.cells {kind:=ml T lev s,pos:=(ar T s.at_).pos} (.aN cT.next 0 2 11 (some 2))]):=c8.get (J.get_set_same (by simp only[J.b2];omega));refine R7 aT bs fC oX ae n m Z Z dp s1 _ _ gn (yi.trans (c8.mut _)) (zZ.aK c8) aml cn Hy ?_ cN s' aa;rw[lD];have iW: ∀ok:Nat->Prop,(∀l,ok l->l≠b3)-> ∀l ro els,ok l->cT.get l=some (.row ro 11 els)->dp.get l=some (.row ro 11 els):=λok yf l ro els dD aZ=>by
    refine c8.get ?_;have:=J.aX aZ;rw[J.get_set_other (Ne.symm (yf l dD)),J.gD Z];exact aZ
   refine⟨_,rfl,dP.B8 (ro:=false) (c8.get ?_) ⟨Z,Z⟩ (amy.bo (λl ro els dD aZ=>⟨dD,iW _ (λ_ h=>h.2) l ro els dD aZ⟩) e _) (mx.bo (λl ro els dD aZ=> ?_) aI _)⟩
   ·rw[J.get_set_other Z];exact J.ca _ _
   ·unfold bI at dD;have aY:=J.aX L8;simp only[J.e9] at aY;exact⟨⟨Z,Z⟩,iW (λl=>H1.next<=l) (λl h=>Z) l ro els dD aZ⟩
theorem afo{n:Nat}(AE: ∀k,k<=n->mN k)(C5:BG n):mN (n+1):=by
 intro H r T ak br s ag fC lev hle e s' h;refine cP (λ_=>ain (n+1)) ?_;have az:=ag.rd.lt;have aV:=aR.push H (.row false 11 [[.int .i64 0,.int .i64 0,.str [],.str [],.int .i64 0,.ap,.int .i64 0,.int .i64 0,.int .i64 0,.int .i64 0,.int .i64 0]]);have mY:=ag.rd.aK aV;unfold ed at mY;have l2:=ag.rd;unfold ed at l2;have amQ: ∃l i cap,br= .aN l i 5 1 cap:=by
  obtain⟨l,i,cap,ro,els,rfl,_⟩:=ag.br.resolve_left fC;exact⟨l,i,cap,rfl⟩
 obtain⟨gW,li,lc,akh⟩:=amQ;have je:dF P .empty .len [131] [br]=some (.int .i64 5):=by rw[akh];exact LR
 simp only[i_] at h;by_cases aB:lev=5
 ·rw[if_pos aB] at h;have Ar:((lev:Int)==5)=true:=by simp;omega
  simp-implicitDefEqProofs(disch:=try exact af) only[sJ,tO,sD,sE,sF,sY,reduceAdd,reduceLeDiff,reduceIte,aw,l2,je,Ar];refine a6 (C5 (ag.aK aV) fC e s' h) ?_;rintro v bm ⟨m2,cJ,fR⟩;refine⟨m2.1,?_⟩;have ck:=m2.get (J.ca H (.row false 11 [[.int .i64 0,.int .i64 0,.str [],.str [],.int .i64 0,.ap,.int .i64 0,.int .i64 0,.int .i64 0,.int .i64 0,.int .i64 0]])) Z;have iw:=J.aX ck;obtain⟨cs,rfl,hlen,dN⟩:=fR.cells;have bz:List.take 11 cs=cs:=List.take_of_length_le Z;simp-implicitDefEqProofs(disch:=try exact af) only[sJ,tO,sD,sE,sF,sY,reduceAdd,reduceLeDiff,reduceIte,aw,ck,hlen,dN,List.append_nil,bz];exact a_.2 (fZ.ret ag ((aV.mut _).trans m2) cJ.rd (bN _) fR (Nat.lt_succ_self _) _)
 ·rw[if_neg aB,eW] at h;obtain⟨⟨aI,s1⟩,U,aa⟩:=h;have Ar:((lev:Int)==5)=false:=by simp;omega
  have hw:IntKind.i64.wrap ((lev:Int)+1)=((lev+1:Nat):Int):=by rw[wrap_i64 Z Z];simp
  simp-implicitDefEqProofs(disch:=try exact af) only[sJ,tO,sD,sE,sF,sY,reduceAdd,reduceLeDiff,reduceIte,aw,l2,je,Ar,hw];refine a6 (AE n (bN _) (ag.aK aV) fC (lev+1) Z aI s1 U) ?_;rintro v bm ⟨m2,cJ,fR⟩;refine⟨m2.1,?_⟩;have ck:=m2.get (J.ca H (.row false 11 [[.int .i64 0,.int .i64 0,.str [],.str [],.int .i64 0,.ap,.int .i64 0,.int .i64 0,.int .i64 0,.int .i64 0,.int .i64 0]])) Z;have hy:=m2.1;simp only[J.b2] at hy;obtain⟨cs,rfl,hlen,dN⟩:=fR.cells;simp-implicitDefEqProofs(disch:=try exact af) only[sJ,tO,sD,sE,sF,sY,reduceAdd,reduceLeDiff,reduceIte,aw,hlen,dN,List.append_nil];have bB:=aR.push bm (.row false 11 [cs])
  refine a6 (QF (cJ.aK bB) fC lev Z) ?_;rintro _ ct ⟨rfl,bK⟩;refine⟨bK.1,?_⟩;simp only[sF];have c8:=bB.trans bK;refine R7 (N:=n+1) (λk ah=>AE k Z) ag fC Z (b3:=bm.next) Z n (n+1) Z Z ct s1 aI cs _ (((aV.mut _).trans m2).trans (c8.mut _)) (cJ.rd.aK c8) (c8.get ck) rfl (bK.get (J.ca _ _)) ?_ e s' aa;exact fR.bo (λl ro els dD aZ=>by
   have:=J.aX aZ;unfold bI at dD;simp only[J.b2] at dD;exact⟨⟨Z,Z⟩,c8.get aZ⟩) aI _
theorem TC: ∀n,n<=900000000-> ∀k,k<=n->ajZ k
 |0,_,k,ah=>by
  have:k=0:=Z;subst this;exact⟨λ_ _ _ _ _ _ h=>by simp[i_] at h,λ_ _ _ _ h=>by simp[pL] at h,λ_ _ _ _ h=>by simp[rB] at h,λ_ _ _ _ h=>by simp[og] at h,λ_ _ _ _ _ _ h=>by simp[ki] at h,
   λ_ _ _ _ h=>by simp[ul] at h,λ_ _ _ _ h=>by simp[sH] at h,λ_ _ _ _ h=>by simp[rQ] at h⟩
 |n+1,aU,k,ah=>by
  have aT:=TC n Z;rcases Nat.lt_or_ge k (n+1) with h|h
  ·exact aT k Z
  ·have:k=n+1:=Z;subst this;exact⟨afo (λk ah=>(aT k ah).row) (aT n (bN _)).unary,acN (λk ah=>(aT k ah).unary) (aT n (bN _)).chain,abj (aT n (bN _)).first λk ah=>(aT k ah).single,
    abt (aT n (bN _)).name (aT n (bN _)).fresh (aT n (bN _)).single,aa5 (aT n (bN _)).row,ada (aT n (bN _)).list,abv (aT n (bN _)).single,ac6 Z λk ah=>(aT k ah).row⟩
end
section
theorem YV{H:J}(a b:Int):dF P H .max [3,3] [.int .i64 a,.int .i64 b]=some (.int .i64 (if a<b then b else a)):=by
 simp only[dF,Hb]
theorem ajX(l:Nat)(eG fA gS h7 tu:Nat):dK P l 131 5 [(0,.aN eG 0 1 2 (some 1)),(1,.aN fA 0 1 2 (some 1)),(2,.aN gS 0 4 2 (some 4)),(3,.aN h7 0 2 2 (some 2)),(4,.aN tu 0 3 2 (some 3))]=
 some (.aN l 0 5 1 (some 5),.row false 1 [[.aN eG 0 1 2 (some 1)],[.aN fA 0 1 2 (some 1)],[.aN gS 0 4 2 (some 4)],[.aN h7 0 2 2 (some 2)],[.aN tu 0 3 2 (some 3)]]):=ad
theorem aaP(H:J):W (aq P ao 162 [] H) λv H'=>v≠ .ap/\zQ H' v/\aR H H':=by
 refine cP (λ_=>ail 0) ?_;simp-implicitDefEqProofs(disch:=try exact af) only[HT,reduceAdd,reduceLeDiff,reduceIte,aw,ajX];refine a_.2 ⟨by simp,⟨_,_,_,_,_,rfl,J.wI (by simp only[J.b2];omega) (by simp only[J.b2];omega),?_⟩,?_⟩
 ·intro k row ah
  match k,ah with
  |0,ah=>simp only[ve,List.getElem?_cons_zero,bF] at ah;subst ah;exact⟨_,_,_,_,_,rfl,by(simp-implicitDefEqProofs(disch:=try exact af) only[dB];rfl),λj e bH=>by simpa using bH⟩
  |1,ah=>simp only[ve,List.getElem?_cons_zero,List.getElem?_cons_succ,bF] at ah;subst ah;exact⟨_,_,_,_,_,rfl,by(simp-implicitDefEqProofs(disch:=try exact af) only[dB];rfl),λj e bH=>by simpa using bH⟩
  |2,ah=>simp only[ve,List.getElem?_cons_zero,List.getElem?_cons_succ,bF] at ah;subst ah;exact⟨_,_,_,_,_,rfl,by(simp-implicitDefEqProofs(disch:=try exact af) only[dB];rfl),λj e bH=>by simpa using bH⟩
  |3,ah=>simp only[ve,List.getElem?_cons_zero,List.getElem?_cons_succ,bF] at ah;subst ah;exact⟨_,_,_,_,_,rfl,by(simp-implicitDefEqProofs(disch:=try exact af) only[dB];rfl),λj e bH=>by simpa using bH⟩
  |4,ah=>simp only[ve,List.getElem?_cons_zero,List.getElem?_cons_succ,bF] at ah;subst ah;exact⟨_,_,_,_,_,rfl,by(simp-implicitDefEqProofs(disch:=try exact af) only[dB];rfl),λj e bH=>by simpa using bH⟩
  |k+5,ah=>simp[ve] at ah
 ·exact(((((aR.push _ _).bX _).bX _).bX _).bX _).bX _
def lF(e:bp)(s:aA):bp×Int×Int×Int:=if s.aC=0 then(e,s.at_,0,0) else(.zero,0,s.aC,s.cv)
def lI(at_ bR:Int):aA:=⟨at_,if bR<0 then 0 else bR,0,0⟩
theorem aeR(ak br:I)(U:ak.one=true)(aa:br.one=true)(a b:Int):cO P 133 [(0,ak),(1,.int .i64 a),(2,.int .i64 b),(3,br)]=some (.agg [ak,.int .i64 a,.int .i64 b,br,.int .i64 0,.int .i64 0]):=by
 cases ak<;>first|(cases U;done)|(cases br<;>first|(cases aa;done)|kernel_rfl)
theorem aeS(ak:I)(U:ak.one=true)(a:Int):cO P 133 [(0,ak),(1,.int .i64 a)]=some (.agg [ak,.int .i64 a,.int .i64 0,.ap,.int .i64 0,.int .i64 0]):=by
 cases ak<;>first|(cases U;done)|kernel_rfl
theorem abK{n:Nat}(aU:n<=900000000){H:J}{T:List Tok}{ak:I}(bz:ih H ak T)(at_ bR:Int){e:bp}{s':aA}(h:i_ T n 0 (lI at_ bR)=some (e,s')):
  W (aq P ao 153 [ak,.int .i64 at_,.int .i64 bR] H) λv H'=> ∃ev,v= .tuple [ev,.int .i64 (lF e s').2.1,.agg [.int .i64 (lF e s').2.2.1,.int .i64 (lF e s').2.2.2]]/\ea H' (bI H.next) (lF e s').1 ev/\aR H H':=by
 refine cP (λ_=>aif 0) ?_;have de:=bz.one;have aV:=(aR.push H (.row false 11 [[.int .i64 0,.int .i64 0,.str [],.str [],.int .i64 0,.ap,.int .i64 0,.int .i64 0,.int .i64 0,.int .i64 0,.int .i64 0]])).bX (.row false 2 [[.int .i64 0,.int .i64 0]]);simp-implicitDefEqProofs(disch:=try exact af) only[x4,reduceAdd,reduceLeDiff,reduceIte,aw,YV];refine a6 (aaP _) ?_;rintro br cT ⟨fC,gH,bB⟩;refine⟨bB.1,?_⟩;have hA:=gH.one;have o_:=aeR ak br de hA at_ (if bR<0 then 0 else bR);have ij: ∀l,eK l (.agg [ak,.int .i64 at_,.int .i64 (if bR<0 then 0 else bR),br,.int .i64 0,.int .i64 0])=some (.ptr l 0 0,.row false 6 [[ak,.int .i64 at_,.int .i64 (if bR<0 then 0 else bR),br,.int .i64 0,.int .i64 0]]):=λl=>h8 l _ (by simp only[List.all_cons,List.all_nil,iF,de,hA,Bool.and_self])
 simp-implicitDefEqProofs(disch:=try exact af) only[x4,reduceAdd,reduceLeDiff,reduceIte,aw,o_,ij];have bK:=aR.push cT (.row false 6 [[ak,.int .i64 at_,.int .i64 (if bR<0 then 0 else bR),br,.int .i64 0,.int .i64 0]]);have c8:=(aV.trans bB).trans bK;have fa:e6 (cT.push (.row false 6 [[ak,.int .i64 at_,.int .i64 (if bR<0 then 0 else bR),br,.int .i64 0,.int .i64 0]])) cT.next T ak br (lI at_ bR):=
  ⟨J.ca _ _,bz.aK c8,.inr (gH.bo λl ro n els _ aZ=>bK.get aZ)⟩
 refine a6 (Gj ((TC n aU n (bN _)).row) fa fC h) ?_;rintro v dp ⟨m5,fg,pa⟩;refine⟨m5.1,?_⟩;have s8:=bB.1;have ye:=m5.1;simp only[J.b2] at s8 ye pa;obtain⟨cs,rfl,hlen,dN⟩:=pa.cells;have wk:List.take 11 cs=cs:=List.take_of_length_le Z;simp-implicitDefEqProofs(disch:=try exact af) only[x4,reduceAdd,reduceLeDiff,reduceIte,aw,hlen,dN,List.append_nil];have fc:=aR.push dp (.row false 11 [cs]);refine a6 (Bl (fg.rd.aK fc)) ?_;rintro _ jX ⟨rfl,rfl⟩;refine⟨bN _,?_⟩;have a8:=fg.rd.aK fc;unfold ed at a8;have nJ:=fg.rd;unfold ed at nJ;have p_:cT.get H.next=some (.row false 11 [[.int .i64 0,.int .i64 0,.str [],.str [],.int .i64 0,.ap,.int .i64 0,.int .i64 0,.int .i64 0,.int .i64 0,.int .i64 0]]):=by rw[bB.2 _ (by simp only[J.b2];omega)];simp-implicitDefEqProofs(disch:=try exact af) only[dB]
 have uD:cT.get (H.next+1)=some (.row false 2 [[.int .i64 0,.int .i64 0]]):=by rw[bB.2 _ (by simp only[J.b2];omega)];simp-implicitDefEqProofs(disch:=try exact af) only[dB]
 have zW:=m5.get (bK.get p_) Z;have sU:=m5.get (bK.get uD) Z;have FX:=J.aX zW;have N1:=J.aX sU;have ni:aR H dp:=⟨by have:=c8.1;simp only[J.b2] at this;omega,λl az=>by rw[m5.2 l (by simp only[J.b2];omega) Z];exact c8.2 l az⟩;by_cases al:s'.aC=0
 ·have e1:(s'.aC != 0)=false:=by simpa using al
  rw[show lF e s'=(e,s'.at_,0,0) by simp[lF,al]];simp-implicitDefEqProofs(disch:=try exact af) only[x4,reduceAdd,reduceLeDiff,reduceIte,aw,e1,a8,nJ,zW,sU,hlen,dN,List.append_nil,wk,Bool.and_true];refine a_.2 ⟨_,rfl,?_,?_⟩
  ·exact pa.new (dC.db (S:=λl=>l<_) (dC.db (S:=λl=>l<_) ((dC.refl _ _).bX _) (.inl Z) _) (.inl Z) _) λl h=>by unfold bI;omega
  ·exact((ni.bX _).db (bN _) _).db Z _
 ·have e1:(s'.aC != 0)=true:=by simpa using al
  rw[show lF e s'=(.zero,0,s'.aC,s'.cv) by simp[lF,al]];have LG:cj (some (.agg [.int .i64 s'.aC,.int .i64 s'.cv])) (.agg [.int .i64 s'.aC,.int .i64 s'.cv])=true:=by simp[cj,I.beq,jR.beq]
  simp-implicitDefEqProofs(disch:=try exact af) only[x4,reduceAdd,reduceLeDiff,reduceIte,aw,e1,a8,nJ,zW,sU,LG,Bool.and_true];refine a_.2 ⟨_,rfl,ea.leaf _ _ {kind:=0},?_⟩;exact((ni.bX _).db (bN _) _).db Z _
def nK(p:(bl×Int)×aA):(bl×Int)×Int×Int×Int:=if p.2.aC=0 then(p.1,p.2.at_,0,0) else(([],0),0,p.2.aC,p.2.cv)
theorem Sj{H:J}{T:List Tok}{ak:I}(bz:ih H ak T)(at_:Int):
  W (aq P ao 73 [ak,.int .i64 at_] H) λv H'=>v= .tuple [.agg [.str (nK (eL T ⟨at_,0,0,0⟩)).1.1,.int .i64 (nK (eL T ⟨at_,0,0,0⟩)).1.2],.int .i64 (nK (eL T ⟨at_,0,0,0⟩)).2.1,.agg [.int .i64 (nK (eL T ⟨at_,0,0,0⟩)).2.2.1,.int .i64 (nK (eL T ⟨at_,0,0,0⟩)).2.2.2]]/\aR H H':=by
 refine cP (λ_=>alE 0) ?_;have de:=bz.one;generalize bi:eL T ⟨at_,0,0,0⟩=q;have aV:=(aR.push H (.row false 2 [[.str [],.int .i64 0]])).bX (.row false 2 [[.int .i64 0,.int .i64 0]]);have o_:=aeS ak de at_;have ij: ∀l,eK l (.agg [ak,.int .i64 at_,.int .i64 0,.ap,.int .i64 0,.int .i64 0])=some (.ptr l 0 0,.row false 6 [[ak,.int .i64 at_,.int .i64 0,.ap,.int .i64 0,.int .i64 0]]):=λl=>h8 l _ (by simp only[List.all_cons,List.all_nil,iF,Bv,de,Bool.and_self])
 simp-implicitDefEqProofs(disch:=try exact af) only[AQ,reduceAdd,reduceLeDiff,reduceIte,aw,o_,ij];have bK:=aV.bX (.row false 6 [[ak,.int .i64 at_,.int .i64 0,.ap,.int .i64 0,.int .i64 0]]);have fa:e6 (((H.push (.row false 2 [[.str [],.int .i64 0]])).push (.row false 2 [[.int .i64 0,.int .i64 0]])).push (.row false 6 [[ak,.int .i64 at_,.int .i64 0,.ap,.int .i64 0,.int .i64 0]])) (H.next+2) T ak .ap ⟨at_,0,0,0⟩:=
  ⟨J.wI (by simp only[J.b2];omega) (by simp only[J.b2];omega),bz.aK bK,.inl rfl⟩
 refine a6 (KT fa) ?_;rintro _ dp ⟨rfl,m5,fg⟩;refine⟨m5.1,?_⟩;rw[bi] at fg ⊢;have ye:=m5.1;simp only[J.b2] at ye;simp-implicitDefEqProofs(disch:=try exact af) only[AQ,reduceAdd,reduceLeDiff,reduceIte,aw];have fc:=aR.push dp (.row false 2 [[.str q.1.1,.int .i64 q.1.2]]);refine a6 (Bl (fg.rd.aK fc)) ?_;rintro _ jX ⟨rfl,rfl⟩;refine⟨bN _,?_⟩;have a8:=fg.rd.aK fc;unfold ed at a8;have nJ:=fg.rd;unfold ed at nJ;have zW:dp.get H.next=some (.row false 2 [[.str [],.int .i64 0]]):=m5.get (by simp-implicitDefEqProofs(disch:=try exact af) only[dB]) Z
 have sU:dp.get (H.next+1)=some (.row false 2 [[.int .i64 0,.int .i64 0]]):=m5.get (by simp-implicitDefEqProofs(disch:=try exact af) only[dB]) Z;have FX:=J.aX zW;have N1:=J.aX sU;have ni:aR H dp:=⟨Z,λl az=>by rw[m5.2 l (by simp only[J.b2];omega) Z];exact bK.2 l az⟩;by_cases al:q.2.aC=0
 ·have e1:(q.2.aC != 0)=false:=by simpa using al
  rw[show nK q=(q.1,q.2.at_,0,0) by simp[nK,al]];simp-implicitDefEqProofs(disch:=try exact af) only[AQ,reduceAdd,reduceLeDiff,reduceIte,aw,e1,a8,nJ,zW,sU,List.append_nil,Bool.and_true];exact a_.2 ⟨rfl,((ni.bX _).db (bN _) _).db Z _⟩
 ·have e1:(q.2.aC != 0)=true:=by simpa using al
  rw[show nK q=(([],0),0,q.2.aC,q.2.cv) by simp[nK,al]];have LG:cj (some (.agg [.int .i64 q.2.aC,.int .i64 q.2.cv])) (.agg [.int .i64 q.2.aC,.int .i64 q.2.cv])=true:=by simp[cj,I.beq,jR.beq]
  simp-implicitDefEqProofs(disch:=try exact af) only[AQ,reduceAdd,reduceLeDiff,reduceIte,aw,e1,a8,nJ,zW,sU,LG,Bool.and_true];exact a_.2 ⟨rfl,((ni.bX _).db (bN _) _).db Z _⟩
end
section
structure dH where
 kind:Int
 name:bl:=[]
 eV:bl:=[]
 fT:Int:=0
 pos:Int:=0
 ref:Int:=0
inductive cE where
 |mk (a:dH) (es:List bp) (body els:List cE)
def cE.zero:cE:= .mk {kind:=0} [] [] []
def cE.at(p:Int):cE->cE
 | .mk a es b c=> .mk {a with pos:=p} es b c
def bp.kind:bp->Int
 | .mk a _=>a.kind
def bp.name:bp->bl
 | .mk a _=>a.name
def jH(e:bp):Bool:=e.kind != 4&&(e.kind != 5&&e.kind != 6)
def eU(T:List Tok)(s:aA):bp×aA:=if s.aC≠0 then(.zero,s) else match i_ T 800000000 0 (lI s.at_ s.bR) with
 |some (e,s')=>if s'.aC=0 then(e,{s with at_:=s'.at_}) else(.zero,{s with aC:=s'.aC,cv:=s'.cv})
 |none=>(.zero,s)
def my(T:List Tok)(s:aA):(bl×Int)×aA:=if(eL T ⟨s.at_,0,0,0⟩).2.aC=0 then((eL T ⟨s.at_,0,0,0⟩).1,{s with at_:=(eL T ⟨s.at_,0,0,0⟩).2.at_}) else(([],0),{s with aC:=(eL T ⟨s.at_,0,0,0⟩).2.aC,cv:=(eL T ⟨s.at_,0,0,0⟩).2.cv})
def colonS(T:List Tok)(s:aA):aA:=(cZ T [58] (aF (bif (ar T s.at_).kind != 1 then cS T 2 s else s))).2
def jE(T:List Tok)(s:aA):(bl×bl×Int)×aA:=
 if(colonS T s).aC≠0 then(([],[],0),colonS T s) else(((ar T s.at_).text,(my T (colonS T s)).1),(my T (colonS T s)).2)
def Cd(T:List Tok)(s:aA):cE×aA:=(.mk {kind:=1,name:=(jE T s).1.1,eV:=(jE T s).1.2.1,fT:=(jE T s).1.2.2} [] [] [],(cZ T [59] (jE T s).2).2)
def Cj(T:List Tok)(s:aA):cE×aA:=
 (.mk {kind:=2,name:=(jE T s).1.1,eV:=(jE T s).1.2.1,fT:=(jE T s).1.2.2} [(eU T (cZ T [61] (jE T s).2).2).1] [] [],(cZ T [59] (eU T (cZ T [61] (jE T s).2).2).2).2)
def xC(T:List Tok)(s:aA):cE×aA:=bif b7 T s 4 [59] then(.mk {kind:=7} [] [] [],(cZ T [59] s).2) else(.mk {kind:=7} [(eU T s).1] [] [],(cZ T [59] (eU T s).2).2)
def BV(T:List Tok)(s:aA):cE×aA:=(.mk {kind:=8} [(eU T s).1] [] [],(cZ T [59] (eU T s).2).2)
def qX(T:List Tok)(e:bp)(s:aA):aA:=(cZ T [61] (bif jH e then cS T 2 s else s)).2
def xE(T:List Tok)(e:bp)(s:aA):cE×aA:=
 (bif e.kind==4 then .mk {kind:=3,name:=e.name} [(eU T (qX T e s)).1] [] [] else .mk {kind:=4} [e,(eU T (qX T e s)).1] [] [],(cZ T [59] (eU T (qX T e s)).2).2)
def qH(T:List Tok)(s:aA):cE×aA:=bif b7 T (eU T s).2 4 [61] then xE T (eU T s).1 (eU T s).2
 else(.mk {kind:=9} [(eU T s).1] [] [],(cZ T [59] (bif b7 T (eU T s).2 4 [59]&&(eU T s).1.kind != 7 then cS T 2 (eU T s).2 else(eU T s).2)).2)
mutual
def oN(T:List Tok):Nat->aA->R (List cE)
 |0,_=>none
 |n+1,s=>bif b7 T s 4 [123] then(if 50<=s.bR then some ([],cS T 4 s) else
  (pM T n [] {s with at_:=hP (s.at_+1),bR:=hP (s.bR+1)}).bind λp=>some (p.1,(cZ T [125] (ga p.2)).2))
  else some ([],cS T 2 s)
def pM(T:List Tok):Nat->List cE->aA->R (List cE)
 |0,_,_=>none
 |n+1,l,s=>bif s.aC==0&& !b7 T s 4 [125] then(xF T n s).bind λp=>pM T n (l++[p.1]) p.2 else some (l,s)
def xF(T:List Tok):Nat->aA->R cE
 |0,_=>none
 |n+1,s=>(bif (ar T s.at_).kind==3 then
  (bif (ar T s.at_).text==[118,97,114] then some (Cd T (aF s))
  else bif (ar T s.at_).text==[108,101,116] then some (Cj T (aF s))
  else bif (ar T s.at_).text==[105,102] then wR T n (aF s)
  else bif (ar T s.at_).text==[119,104,105,108,101] then wW T n (aF s)
  else bif (ar T s.at_).text==[114,101,116,117,114,110] then some (xC T (aF s))
  else bif (ar T s.at_).text==[112,114,105,110,116] then some (BV T (aF s))
  else some (qH T s)) else some (qH T s)).bind λp=>some (p.1.at (ar T s.at_).pos,p.2)
def wR(T:List Tok):Nat->aA->R cE
 |0,_=>none
 |n+1,s=>(oN T n (eU T s).2).bind λb=>bif b7 T b.2 3 [101,108,115,101] then
  (oN T n (aF b.2)).bind λc=>some (.mk {kind:=5} [(eU T s).1] b.1 c.1,c.2) else some (.mk {kind:=5} [(eU T s).1] b.1 [],b.2)
def wW(T:List Tok):Nat->aA->R cE
 |0,_=>none
 |n+1,s=>(oN T n (eU T s).2).bind λb=>some (.mk {kind:=6} [(eU T s).1] b.1 [],b.2)
end
def dE(T:List Tok)(s:aA):bp×aA:=match jF T 800000000 0 s with
 |some p=>p
 |none=>(.zero,s)
def gh(T:List Tok)(s:aA):(bl×bl×Int)×aA:=(((dk T s).1,(fm T (cr T [58] (dk T s).2)).1),(fm T (cr T [58] (dk T s).2)).2)
def Cc(T:List Tok)(s:aA):cE×aA:=(.mk {kind:=1,name:=(gh T s).1.1,eV:=(gh T s).1.2.1,fT:=(gh T s).1.2.2} [] [] [],cr T [59] (gh T s).2)
def Ci(T:List Tok)(s:aA):cE×aA:=
 (.mk {kind:=2,name:=(gh T s).1.1,eV:=(gh T s).1.2.1,fT:=(gh T s).1.2.2} [(dE T (cr T [61] (gh T s).2)).1] [] [],cr T [59] (dE T (cr T [61] (gh T s).2)).2)
def Ek(T:List Tok)(s:aA):cE×aA:=bif cd T s [59] then(.mk {kind:=7} [] [] [],cr T [59] s) else(.mk {kind:=7} [(dE T s).1] [] [],cr T [59] (dE T s).2)
def GY(T:List Tok)(s:aA):cE×aA:=(.mk {kind:=8} [(dE T s).1] [] [],cr T [59] (dE T s).2)
def oA(T:List Tok)(e:bp)(s:aA):aA:=cr T [61] (bif jH e then cS T 2 s else s)
def Ht(T:List Tok)(e:bp)(s:aA):cE×aA:=
 (bif e.kind==4 then .mk {kind:=3,name:=e.name} [(dE T (oA T e s)).1] [] [] else .mk {kind:=4} [e,(dE T (oA T e s)).1] [] [],cr T [59] (dE T (oA T e s)).2)
def qG(T:List Tok)(s:aA):cE×aA:=bif cd T (dE T s).2 [61] then Ht T (dE T s).1 (dE T s).2
 else(.mk {kind:=9} [(dE T s).1] [] [],cr T [59] (bif cd T (dE T s).2 [59]&&(dE T s).1.kind != 7 then cS T 2 (dE T s).2 else(dE T s).2))
mutual
def lE(T:List Tok):Nat->aA->R (List cE)
 |0,_=>none
 |n+1,s=>(pS T n [] (eT T [123] s)).bind λp=>some (p.1,gp T [125] p.2)
def pS(T:List Tok):Nat->List cE->aA->R (List cE)
 |0,_,_=>none
 |n+1,l,s=>bif s.aC==0&& !cd T s [125] then(xG T n s).bind λp=>pS T n (l++[p.1]) p.2 else some (l,s)
def xG(T:List Tok):Nat->aA->R cE
 |0,_=>none
 |n+1,s=>(bif cd T s [118,97,114]||cd T s [108,101,116] then some (bif (ar T s.at_).text==[108,101,116] then Ci T (aF s) else Cc T (aF s))
  else bif cd T s [105,102] then(lE T n (dE T (aF s)).2).bind λb=>bif cd T b.2 [101,108,115,101] then
   (lE T n (aF b.2)).bind λc=>some (.mk {kind:=5} [(dE T (aF s)).1] b.1 c.1,c.2) else some (.mk {kind:=5} [(dE T (aF s)).1] b.1 [],b.2)
  else bif cd T s [119,104,105,108,101] then(lE T n (dE T (aF s)).2).bind λb=>some (.mk {kind:=6} [(dE T (aF s)).1] b.1 [],b.2)
  else bif cd T s [114,101,116,117,114,110] then some (Ek T (aF s))
  else bif cd T s [112,114,105,110,116] then some (GY T (aF s))
  else some (qG T s)).bind λp=>some (p.1.at (ar T s.at_).pos,p.2)
end
end
end Go.Proofs.YtghmbpmaafnodaaGreatDoor
