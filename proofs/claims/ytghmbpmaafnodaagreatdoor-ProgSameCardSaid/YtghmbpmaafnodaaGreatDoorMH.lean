/-
  Texts of one proof, laid together: X6 X7 X8 X9 X10 T1.
-/
import Derived.Test.YtghmbpmaafnodaaGreatDoorMG
import Derived.Test.YtghmbpmaafnodaaGreatDoorMF
set_option linter.unusedVariables false
set_option linter.unusedSimpArgs false
namespace Go.Proofs.YtghmbpmaafnodaaGreatDoor
open Go.f7
open Nat (reduceAdd reduceLeDiff)
section
theorem sw(call:av)(H:J)(f:Nat)(a c cm:List I)(k:I->J->O):qR call H (.func (.func f) a c) cm k=aL H (call f (a++cm++c) H) k:=rfl
theorem Se{n:Nat}{H0 H:J}{r:Nat}{T:List Tok}{aj bq:I}{s0 s:aw}(bt:e1 H0 r T aj bq s0)(bM:cB r H0 H)(cp:ee H r aj bq s){l:List bh}{v:I}(ah:dO H (bG H0.next) l v):
  W (vd (au P ao) n (.ptr r 0 0) v H) λv H'=>cB r H0 H'/\e1 H' r T aj bq (jW T [41] s).2/\dO H' (bG H0.next) l v:=by
 have ax:=bt.rd.lt;rw[vd];refine aY (JR (bt.mut bM cp) [41]) ?_;rintro _ H1 ⟨rfl,m1,dt⟩;refine⟨m1.1,?_⟩
 try simp only[vc,pb]
 exact a8.2 ⟨bM.trans m1,dt,ah.bo (e_.mut m1 (by unfold bG;omega) λ_ h=>h)⟩
theorem Q7{N:Nat}(aT: ∀k,k<N->mH k){H0:J}{r:Nat}{T:List Tok}{aj bq:I}{s0:aw}(bt:e1 H0 r T aj bq s0)(fx:bq≠ .an):
  ∀(n m:Nat),n<N->n<m-> ∀(H:J) (s:aw) (l:List bh) (L:Nat) (els:List (List I)),cB r H0 H->ee H r aj bq s->l.length+n<=1000000000->H.get L=some (.row false 11 els)->H0.next<=L->els.length=l.length->
   gm H (λk=>H0.next<=k/\k≠L) l els-> ∀(l':List bh) (s':aw),mb T n l s=some (l',s')->
   W (y8 (au P ao) N m (.ptr r 0 0) (.func (.func 163) [.ptr r 0 0] []) (.aM L 0 l.length 11 none) H) λv H'=>cB r H0 H'/\e1 H' r T aj bq s'/\dO H' (bG H0.next) l' v
 |0,m,dX,hm,H,s,l,L,els,bM,cp,hlen,aX,gA,kN,ph,l',s',h=>by simp[mb] at h
 |n+1,0,dX,hm,H,s,l,L,els,bM,cp,hlen,aX,gA,kN,ph,l',s',h=>Z
 |n+1,m+1,dX,hm,H,s,l,L,els,bM,cp,hlen,aX,gA,kN,ph,l',s',h=>by
  have ax:=bt.rd.lt;have api:=J.aW aX;have hle:=bM.1;simp only[mb] at h;simp only[y8];rw[vc];refine aY (Kj (bt.mut bM cp) 4 [44]) ?_;rintro _ H1 ⟨rfl,m1,dt⟩;refine⟨m1.1,?_⟩;have mT:=m1.get aX Z;have anG:=J.aW mT;have Ex:=ph.bo (e_.mut m1 Z λ_ h=>h) l els;cases bC:(fg T 4 [44] s).1 with
  |false=>
   simp only[bC,bi,bD,dz] at h;obtain⟨rfl,rfl⟩:=h;simp-implicitDefEqProofs(disch:=try exact ag) only[vc,pb,reduceAdd,reduceLeDiff,reduceIte,az];refine Se bt (bM.trans m1) dt.rd (.inr (.inl ⟨L,0,none,false,els,rfl,gA,mT,?_⟩));rw[List.drop_zero];exact Ex.bo (e_.q9 λ_ h=>h.1) l els
  |true=>
   simp only[bC,bx,eT] at h;obtain⟨⟨aI,s1⟩,U,aa⟩:=h;simp-implicitDefEqProofs(disch:=try exact ag) only[vc,pb,reduceAdd,reduceLeDiff,reduceIte,az,sw,List.append_nil];refine aY (Gr (aT n Z) dt fx U) ?_;rintro v bl ⟨m2,cK,fQ⟩;refine⟨m2.1,?_⟩;have r_:=m2.get mT Z;have anH:=J.aW r_;have sa:=m1.1;have hj:=m2.1;have Mp:=Ex.bo (e_.mut m2 Z λ_ h=>h) l els;obtain⟨cs,rfl,l_,dL⟩:=fQ.cells;have aO: ∀l,dH P l 96 1 [(0,.agg cs)]=some (.aM l 0 1 11 (some 1),.row false 11 [cs]):=λl=>jK l cs l_ dL
   simp-implicitDefEqProofs(disch:=try exact ag) only[vc,pb,reduceAdd,reduceLeDiff,reduceIte,az,aO];have bz:=aR.push bl (.row false 11 [cs]);rw[SJ (J.ca bl (.row false 11 [cs])) (bz.get r_) kN Z,ks (by simp only[J.b6,J.e9];omega)];simp only[J.b6,J.e9,pb];have LU:l.length+1=(l++[aI]).length:=by simp
   rw[LU];have lv: ∀k,k<bl.next->k≠L->(((bl.push (.row false 11 [cs])).set L .dead).push (.row false 11 (els++[cs]))).get k=bl.get k:=λk ah eZ=>by
    rw[J.gy (by simp only[J.b6,J.e9];omega),J.get_set_other Z,J.gy Z]
   have Ot:cB r H0 (((bl.push (.row false 11 [cs])).set L .dead).push (.row false 11 (els++[cs]))):=(((bM.trans m1).trans m2).bV _|>.de (.inr gA) _).bV _;refine Q7 aT bt fx n m Z Z _ s1 (l++[aI]) (bl.next+1) (els++[cs]) Ot ?_ (by simp;omega) ?_ Z (by simp[kN]) ?_ l' s' aa
   ·have:=cK.rd;unfold ee at this ⊢;rw[lv r Z Z];exact this
   ·exact J.wJ (by simp only[J.b6,J.e9];omega) (by simp only[J.b6,J.e9];omega)
   ·refine gm.append l els aI cs ?_ kN ?_
    ·exact Mp.bo (λk ro es ah kO=>⟨⟨ah.1,by have:=J.aW kO;omega⟩,by rw[lv k (J.aW kO) ah.2];exact kO⟩) l els
    ·exact fQ.bo (λk ro es ah kO=>by
      have ae:=J.aW kO;unfold bG at ah;exact⟨⟨Z,Z⟩,by rw[lv k ae Z];exact kO⟩) aI _
theorem adM{n:Nat}(aV:n<=900000000)(aT: ∀k,k<=n->mH k):Ln (n+1):=by
 intro H r T aj bq s af fx l s' h;refine cU (λ_=>ajz (n+1)) ?_;have ax:=af.rd.lt;simp only[rR] at h;rw[pb];refine aY (Gl af [40]) ?_;rintro _ H1 ⟨rfl,m1,dt⟩;refine⟨m1.1,?_⟩;cases bs:(eG T [40] s).1 with
 |false=>
  simp only[bs,bi,bD,dz] at h;obtain⟨rfl,rfl⟩:=h;simp-implicitDefEqProofs(disch:=try exact ag) only[vc,pb,reduceAdd,reduceLeDiff,reduceIte,az,Bool.not_false];exact a8.2 ⟨m1,dt,dO.nil _ _⟩
 |true=>
  simp only[bs,bx] at h;simp-implicitDefEqProofs(disch:=try exact ag) only[pb,reduceAdd,reduceLeDiff,reduceIte,az,Bool.not_true];refine aY (rq dt.rd dt.b9 4 [41]) ?_;rintro _ bl ⟨rfl,aJ⟩;refine⟨aJ.1,?_⟩;have cK:=dt.aK aJ;have bM:=m1.trans (aJ.mut _);cases be:b4 T (eG T [40] s).2 4 [41] with
  |true=>
   simp only[be,bx,bD,dz] at h;obtain⟨rfl,rfl⟩:=h;simp-implicitDefEqProofs(disch:=try exact ag) only[pb,reduceAdd,reduceLeDiff,reduceIte,az,Bool.not_true];exact Se af bM cK.rd (dO.nil _ _)
  |false=>
   simp only[be,bi,eT] at h;obtain⟨⟨aI,s1⟩,U,aa⟩:=h;simp-implicitDefEqProofs(disch:=try exact ag) only[pb,reduceAdd,reduceLeDiff,reduceIte,az,Bool.not_false,sw,List.append_nil];refine aY (Gr (aT n (bL _)) cK fx U) ?_;rintro v cQ ⟨m3,eY,ml⟩;refine⟨m3.1,?_⟩;have sa:=m1.1;have hj:=aJ.1;have s8:=m3.1;obtain⟨cs,rfl,l_,dL⟩:=ml.cells;have aO: ∀l,dH P l 96 1 [(0,.agg cs)]=some (.aM l 0 1 11 (some 1),.row false 11 [cs]):=λl=>jK l cs l_ dL
   simp-implicitDefEqProofs(disch:=try exact ag) only[pb,reduceAdd,reduceLeDiff,reduceIte,az,aO];have bK:=(aR.push cQ (.row false 11 [cs])).bV (.row false 11 [cs]);rw[RB (J.ca cQ (.row false 11 [cs])),ks (by simp only[J.b6];omega)];simp only[J.b6,pb];refine Q7 (N:=n+1) (λk ah=>aT k Z) af fx n (n+1) Z Z _ s1 [aI] (cQ.next+1) [cs] ((bM.trans m3).trans (bK.mut _)) (eY.rd.aK bK) (by simp;omega) ?_ Z rfl ?_ l s' aa
   ·exact J.wJ (by simp only[J.b6];omega) (by simp only[J.b6];omega)
   ·rw[gm,gm];exact⟨ml.bo (λk ro es ah kO=>by
     have ae:=J.aW kO;unfold bG at ah;exact⟨⟨Z,Z⟩,bK.get kO⟩) aI _,trivial⟩
theorem adR{n:Nat}(aT:Ln n):Lo (n+1):=by
 intro H r T aj bq s af fx e s' h;refine cU (λ_=>ajv 0) ?_;have ax:=af.rd.lt;have df:=af.b9.one;have hl:=af.bq.one;simp-implicitDefEqProofs(disch:=try exact ag) only[uy,reduceAdd,reduceLeDiff,reduceIte,az];refine aY (mD (af.rd.aK (aR.push _ _)) (af.b9.aK (aR.push _ _))) ?_;rintro _ bl ⟨rfl,aJ⟩;refine⟨aJ.1,?_⟩;have jO:=aJ.1;simp only[J.b6] at jO;have bM:=((aR.push H _).trans aJ).mut (· =r);have nz:=af.rd.aK ((aR.push H _).trans aJ);have cJ:=nz;unfold ee at cJ;have cn:=aJ.get (J.ca H _);obtain⟨m3,lp⟩:=qD (nz.aK (aR.push bl (.row false 4 [[.int .i64 (aq T s.at_).kind,.str (aq T s.at_).text,.int .i64 (aq T s.at_).n,.int .i64 (aq T s.at_).pos]]))) (aE s)
 have kQ:=J.ca bl (.row false 4 [[.int .i64 (aq T s.at_).kind,.str (aq T s.at_).text,.int .i64 (aq T s.at_).n,.int .i64 (aq T s.at_).pos]]);have Zu:=aR.push bl (.row false 4 [[.int .i64 (aq T s.at_).kind,.str (aq T s.at_).text,.int .i64 (aq T s.at_).n,.int .i64 (aq T s.at_).pos]]);replace bM:=bM.trans (Zu.mut _);simp-implicitDefEqProofs(disch:=try exact ag) only[uy,reduceAdd,reduceLeDiff,reduceIte,az,Tok.v,cJ,df,hl];have eY:=af.mut (bM.trans m3) lp;refine aY (rq eY.rd eY.b9 4 [40]) ?_;rintro _ cu ⟨rfl,bK⟩;refine⟨bK.1,?_⟩;have fV:=bK.get (m3.get (Zu.get cn) Z);have sc:=bK.get (m3.get kQ Z);have x9:=J.aW fV
 have aq7:=J.aW sc;have fa:=eY.aK bK;replace bM:=(bM.trans m3).trans (bK.mut _);simp only[um] at h;cases be:b4 T (aE s) 4 [40] with
 |false=>
  simp only[be,bi,bD,dz] at h;obtain⟨rfl,rfl⟩:=h;simp-implicitDefEqProofs(disch:=try exact ag) only[uy,reduceAdd,reduceLeDiff,reduceIte,az,Bool.not_false,fV,sc];refine a8.2 ?_;exact f6.box (a:={kind:=4,name:=(aq T s.at_).text,pos:=(aq T s.at_).pos}) (kv:= .an) (lo:=H.next+1) af bM fa.rd (bL _) (Nat.lt_succ_self _) (dO.nil _ _) _
 |true=>
  simp only[be,bx,eT] at h;obtain⟨⟨eI,s1⟩,U,aa⟩:=h;simp only[bD,dz] at aa;obtain⟨rfl,rfl⟩:=aa;simp-implicitDefEqProofs(disch:=try exact ag) only[uy,reduceAdd,reduceLeDiff,reduceIte,az,Bool.not_true];refine aY (aT fa fx eI s1 U) ?_;rintro v dc ⟨m5,ff,YZ⟩;refine⟨m5.1,?_⟩;have gu:=m5.get fV Z;have oI:=m5.get sc Z;have CZ:=J.aW gu;have aq8:=J.aW oI;replace bM:=bM.trans m5;have Ct: ∀kv:I,dO dc (bG cu.next) eI kv->f6 H r T aj bq (.mk {kind:=7,name:=(aq T s.at_).text,pos:=(aq T s.at_).pos} eI) s1 (.agg (fm.cells {kind:=7,name:=(aq T s.at_).text,pos:=(aq T s.at_).pos} kv)) (dc.set H.next (.row false 11 [fm.cells {kind:=7,name:=(aq T s.at_).text,pos:=(aq T s.at_).pos} kv])):=λkv ah=>
   f6.box (lo:=cu.next) af bM ff.rd (bL _) Z ah _
  have Mq:=YZ;rcases YZ with⟨rfl,_⟩|⟨L,i,cap,ro,els,rfl,_⟩|⟨L,i,cap,rfl,_⟩
  ·simp-implicitDefEqProofs(disch:=try exact ag) only[uy,reduceAdd,reduceLeDiff,reduceIte,az,gu,oI,sc];exact a8.2 (Ct _ Mq)
  ·simp-implicitDefEqProofs(disch:=try exact ag) only[uy,reduceAdd,reduceLeDiff,reduceIte,az,gu,oI,sc];exact a8.2 (Ct _ Mq)
  ·simp-implicitDefEqProofs(disch:=try exact ag) only[uy,reduceAdd,reduceLeDiff,reduceIte,az,gu,oI,sc];exact a8.2 (Ct _ Mq)
end
section
theorem Md:P.underlying 218=some (.map 9 217):=ad
theorem Mc:P.underlying 212=some (.map 9 214):=ad
theorem ww:P.underlying 9=some .string:=ad
theorem V6:jZ P 217=some .nilFunc:=ad
theorem V5:jZ P 214=some .nilFunc:=ad
theorem zH{H:J}{l:Nat}{es:List (I×I)}(k:bk)(v:I)(aX:H.get l=some (.map es))(ak:pX .string (.str k) es 0=some none):jg P H 218 (.map l) (.str k) v=some (H.set l (.map (es++[(.str k,v)]))):=by
 simp only[jg,Md,ww,aX,plainKey,ak,if_true]
theorem Wx{H:J}{l:Nat}{es:List (I×I)}(k:bk)(v:I)(aX:H.get l=some (.map es))(ak:pX .string (.str k) es 0=some none):jg P H 212 (.map l) (.str k) v=some (H.set l (.map (es++[(.str k,v)]))):=by
 simp only[jg,Mc,ww,aX,plainKey,ak,if_true]
def fn(n:Nat):I:= .func (.func n) [] []
def n3:List (I×I):=[(.str [116,114,117,101],fn 188),(.str [102,97,108,115,101],fn 188),(.str [110,117,108,108],fn 189),(.str [110,101,119],fn 190),(.str [108,101,110],fn 191),(.str [114,101,97,100],fn 192),(.str [40],fn 193)]
def sx:List (I×I):=[(.str [46],fn 185),(.str [91],fn 186)]
theorem Py(H:J):W (au P ao 184 [] H) λv H'=>v= .map H.next/\H'=H.push (.map n3):=by
 refine cU (λ_=>ajw 0) ?_;simp only[r3,yF]
 try simp only[r3]
 rw[zH _ _ (J.ca H _) rfl,lx (by simp),J.n0]
 try simp only[r3]
 rw[zH _ _ (J.ca H _) rfl,lx (by simp),J.n0]
 try simp only[r3]
 rw[zH _ _ (J.ca H _) rfl,lx (by simp),J.n0]
 try simp only[r3]
 rw[zH _ _ (J.ca H _) rfl,lx (by simp),J.n0]
 try simp only[r3]
 rw[zH _ _ (J.ca H _) rfl,lx (by simp),J.n0]
 try simp only[r3]
 rw[zH _ _ (J.ca H _) rfl,lx (by simp),J.n0]
 try simp only[r3]
 rw[zH _ _ (J.ca H _) rfl,lx (by simp),J.n0]
 try simp only[r3]
 exact a8.2 ⟨rfl,rfl⟩
theorem aaN(H:J):W (au P ao 182 [] H) λv H'=>v= .map H.next/\H'=H.push (.map sx):=by
 refine cU (λ_=>aju 0) ?_;simp only[Ae,yF]
 try simp only[Ae]
 rw[Wx _ _ (J.ca H _) rfl,lx (by simp),J.n0]
 try simp only[Ae]
 rw[Wx _ _ (J.ca H _) rfl,lx (by simp),J.n0]
 try simp only[Ae]
 exact a8.2 ⟨rfl,rfl⟩
def j2(t:bk):List (I×I)->I
 |[]=> .nilFunc
 |(.str k,v)::r=>bif t==k then v else j2 t r
 |_::r=>j2 t r
theorem Gi(t:bk): ∀(es:List (I×I)) (i:Nat),(∀e∈es,∃k,e.1= .str k)->(∃j v,pX .string (.str t) es i=some (some (j,v))/\j2 t es=v)\/(pX .string (.str t) es i=some none/\j2 t es= .nilFunc)
 |[],i,_=> .inr ⟨rfl,rfl⟩
 |(a,v)::es,i,h=>by
  obtain⟨k,ah⟩:=h (a,v) (by simp);simp only at ah;subst ah;cases ay:t==k with
  |true=>exact .inl ⟨i,v,by simp[pX,u5,ay],by simp[j2,ay]⟩
  |false=>
   rcases Gi t es (i+1) (λe he=>h e (by simp[he])) with⟨j,u,U,aa⟩|⟨U,aa⟩
   ·exact .inl ⟨j,u,by simp[pX,u5,ay,U],by simp[j2,ay,aa]⟩
   ·exact .inr ⟨by simp[pX,u5,ay,U],by simp[j2,ay,aa]⟩
theorem Wq{H:J}{l:Nat}(t:bk)(aX:H.get l=some (.map n3)):n1 P H 218 (.map l) (.str t) false=some (j2 t n3):=by
 rcases Gi t n3 0 (by intro e he;simp[n3] at he;rcases he with rfl|rfl|rfl|rfl|rfl|rfl|rfl<;>exact⟨_,rfl⟩) with⟨j,v,U,aa⟩|⟨U,aa⟩
 ·simp only[n1,Md,ww,V6,plainKey,if_true,aX,U,aa,Bool.false_eq_true,if_false]
 ·simp only[n1,Md,ww,V6,plainKey,if_true,aX,U,aa,Bool.false_eq_true,if_false]
theorem alz{H:J}{l:Nat}(t:bk)(aX:H.get l=some (.map sx)):n1 P H 212 (.map l) (.str t) false=some (j2 t sx):=by
 rcases Gi t sx 0 (by intro e he;simp[sx] at he;rcases he with rfl|rfl<;>exact⟨_,rfl⟩) with⟨j,v,U,aa⟩|⟨U,aa⟩
 ·simp only[n1,Mc,ww,V5,plainKey,if_true,aX,U,aa,Bool.false_eq_true,if_false]
 ·simp only[n1,Mc,ww,V5,plainKey,if_true,aX,U,aa,Bool.false_eq_true,if_false]
theorem Wy(n:Nat):aZ P .neq 217 true (fn n) .nilFunc=some (.bool true):=ad
theorem aiD:aZ P .neq 217 true .nilFunc .nilFunc=some (.bool false):=ad
theorem Wa(n:Nat):aZ P .eql 214 true (fn n) .nilFunc=some (.bool false):=ad
theorem ail:aZ P .eql 214 true .nilFunc .nilFunc=some (.bool true):=ad
theorem J8{H0 H:J}{r:Nat}{T:List Tok}{aj bq:I}{s0 s:aw}(bt:e1 H0 r T aj bq s0)(bM:cB r H0 H)(cp:ee H r aj bq s)(ay:H.get H0.next=some (.row false 11 [[.int .i64 0,.int .i64 0,.str [],.str [],.int .i64 0,.an,.int .i64 0,.int .i64 0,.int .i64 0,.int .i64 0,.int .i64 0]])):
  W (tL (au P ao) (.ptr r 0 0) (.ptr H0.next 0 0) H) (f6 H0 r T aj bq .zero (cL T 2 s)):=by
 have ax:=bt.rd.lt;rw[tL];refine aY (wM (bt.mut bM cp) 2) ?_;rintro _ H1 ⟨rfl,m1,dt⟩;refine⟨m1.1,?_⟩;have dS:=m1.get ay Z;have Fh:=J.aW dS;simp-implicitDefEqProofs(disch:=try exact ag) only[tL,ol,mg,reduceAdd,reduceLeDiff,reduceIte,az,dS];exact a8.2 (f6.ret bt (bM.trans m1) dt.rd (bL _) (ec.leaf _ (bG (H0.next+1)) {kind:=0}) (Nat.lt_succ_self _) _)
theorem yI{H0 H:J}{r:Nat}{T:List Tok}{aj bq:I}{s0 s:aw}(bt:e1 H0 r T aj bq s0)(bM:cB r H0 H)(cp:ee H r aj bq s)(ay:H.get H0.next=some (.row false 11 [[.int .i64 0,.int .i64 0,.str [],.str [],.int .i64 0,.an,.int .i64 0,.int .i64 0,.int .i64 0,.int .i64 0,.int .i64 0]])){b:Nat}(kk:H0.next<b)(bg:H.get b=some (.row false 4 [[.int .i64 (aq T s.at_).kind,.str (aq T s.at_).text,.int .i64 (aq T s.at_).n,.int .i64 (aq T s.at_).pos]]))
  {k:Nat} (nH:j2 (aq T s.at_).text n3=fn k) (Ar:(((aq T s.at_).kind==4)==((aq T s.at_).text==[40]))=true) {e:bh} {s':aw} (aS: ∀hy,e1 hy r T aj bq s->W (au P ao k [.ptr r 0 0] hy) (f6 hy r T aj bq e s')):
  W (ol (au P ao) (.ptr r 0 0) (.ptr H0.next 0 0) (.ptr b 0 0) (.bool true) H) (f6 H0 r T aj bq e s'):=by
 have ax:=bt.rd.lt;have io:=J.aW ay;have wj:=J.aW bg;simp-implicitDefEqProofs(disch:=try exact ag) only[ol,mg,reduceAdd,reduceLeDiff,reduceIte,az];refine aY (Py H) ?_;rintro _ H1 ⟨rfl,rfl⟩;refine⟨(aR.push _ _).1,?_⟩;have aU:=aR.push H (.map n3);have rN:=Wq (aq T s.at_).text (J.ca H (.map n3));simp-implicitDefEqProofs(disch:=try exact ag) only[ol,mg,reduceAdd,reduceLeDiff,reduceIte,az,bg,rN,nH,Wy,Ar];simp only[fn,sw,List.nil_append,List.append_nil];refine aY (aS _ ((bt.mut bM cp).aK aU)) ?_;rintro v bl ⟨m2,cK,fQ⟩;refine⟨m2.1,?_⟩;have cn:=m2.get (aU.get ay) Z;have vM:=J.aW cn;obtain⟨cs,rfl,hlen,dL⟩:=fQ.cells
 have bC:List.take 11 cs=cs:=List.take_of_length_le Z;simp-implicitDefEqProofs(disch:=try exact ag) only[ol,mg,reduceAdd,reduceLeDiff,reduceIte,az,cn,hlen,dL,List.append_nil,bC];have hm:=bM.1;exact a8.2 (f6.ret bt ((bM.trans (aU.mut _)).trans m2) cK.rd (bL _) fQ (by simp only[J.b6];omega) _)
theorem R7{H0 H:J}{r:Nat}{T:List Tok}{aj bq:I}{s0 s:aw}(bt:e1 H0 r T aj bq s0)(bM:cB r H0 H)(cp:ee H r aj bq s)(ay:H.get H0.next=some (.row false 11 [[.int .i64 0,.int .i64 0,.str [],.str [],.int .i64 0,.an,.int .i64 0,.int .i64 0,.int .i64 0,.int .i64 0,.int .i64 0]])){b:Nat}(kk:H0.next<b)(bg:H.get b=some (.row false 4 [[.int .i64 (aq T s.at_).kind,.str (aq T s.at_).text,.int .i64 (aq T s.at_).n,.int .i64 (aq T s.at_).pos]]))
  (nH:j2 (aq T s.at_).text n3= .nilFunc\/ ∃k,j2 (aq T s.at_).text n3=fn k/\(((aq T s.at_).kind==4)==((aq T s.at_).text==[40]))=false):
  W (ol (au P ao) (.ptr r 0 0) (.ptr H0.next 0 0) (.ptr b 0 0) (.bool true) H) (f6 H0 r T aj bq .zero (cL T 2 s)):=by
 have ax:=bt.rd.lt;have io:=J.aW ay;have wj:=J.aW bg;simp-implicitDefEqProofs(disch:=try exact ag) only[ol,mg,reduceAdd,reduceLeDiff,reduceIte,az];refine aY (Py H) ?_;rintro _ H1 ⟨rfl,rfl⟩;refine⟨(aR.push _ _).1,?_⟩;have aU:=aR.push H (.map n3);have rN:=Wq (aq T s.at_).text (J.ca H (.map n3));rcases nH with nH|⟨k,nH,Ar⟩
 ·simp-implicitDefEqProofs(disch:=try exact ag) only[ol,mg,reduceAdd,reduceLeDiff,reduceIte,az,bg,rN,nH,aiD];exact J8 bt (bM.trans (aU.mut _)) (cp.aK aU) (aU.get ay)
 ·simp-implicitDefEqProofs(disch:=try exact ag) only[ol,mg,reduceAdd,reduceLeDiff,reduceIte,az,bg,rN,nH,Wy,Ar];exact J8 bt (bM.trans (aU.mut _)) (cp.aK aU) (aU.get ay)
theorem hA{t x:bk}(h: ¬t=x):(t==x)=false:=by simpa using h
theorem afT(t:bk):j2 t n3= .nilFunc\/ ∃k,j2 t n3=fn k:=by
 by_cases t1:t=[116,114,117,101]
 ·subst t1;exact .inr ⟨188,rfl⟩
 by_cases t2:t=[102,97,108,115,101]
 ·subst t2;exact .inr ⟨188,rfl⟩
 by_cases t3:t=[110,117,108,108]
 ·subst t3;exact .inr ⟨189,rfl⟩
 by_cases t4:t=[110,101,119]
 ·subst t4;exact .inr ⟨190,rfl⟩
 by_cases t5:t=[108,101,110]
 ·subst t5;exact .inr ⟨191,rfl⟩
 by_cases t6:t=[114,101,97,100]
 ·subst t6;exact .inr ⟨192,rfl⟩
 by_cases t7:t=[40]
 ·subst t7;exact .inr ⟨193,rfl⟩
 exact .inl (by simp[j2,n3,hA t1,hA t2,hA t3,hA t4,hA t5,hA t6,hA t7])
theorem ab8{n:Nat}(apO:Lo n)(wo:KZ n)(It:u2 n):KY (n+1):=by
 intro H r T aj bq s af fx e s' h;refine cU (λ_=>ajt 0) ?_;have ax:=af.rd.lt;have df:=af.b9.one;have hl:=af.bq.one;have aU:=aR.push H (.row false 11 [[.int .i64 0,.int .i64 0,.str [],.str [],.int .i64 0,.an,.int .i64 0,.int .i64 0,.int .i64 0,.int .i64 0,.int .i64 0]]);simp-implicitDefEqProofs(disch:=try exact ag) only[mg,reduceAdd,reduceLeDiff,reduceIte,az];refine aY (Bh (af.rd.aK aU)) ?_;rintro _ H1 ⟨rfl,rfl⟩;refine⟨bL _,?_⟩;simp only[oo] at h;by_cases ak:s.aA=0
 ·rw[if_neg (by simpa using ak)] at h;simp-implicitDefEqProofs(disch:=try exact ag) only[mg,reduceAdd,reduceLeDiff,reduceIte,az,ak,bne_self_eq_false];refine aY (mD (af.rd.aK aU) (af.b9.aK aU)) ?_;rintro _ bl ⟨rfl,aJ⟩;refine⟨aJ.1,?_⟩;have jO:=aJ.1;simp only[J.b6] at jO;have bz:=(aU.trans aJ).bV (.row false 4 [[.int .i64 (aq T s.at_).kind,.str (aq T s.at_).text,.int .i64 (aq T s.at_).n,.int .i64 (aq T s.at_).pos]]);have bg:=J.ca bl (.row false 4 [[.int .i64 (aq T s.at_).kind,.str (aq T s.at_).text,.int .i64 (aq T s.at_).n,.int .i64 (aq T s.at_).pos]]);have ay:=(aR.push bl (.row false 4 [[.int .i64 (aq T s.at_).kind,.str (aq T s.at_).text,.int .i64 (aq T s.at_).n,.int .i64 (aq T s.at_).pos]])).get (aJ.get (J.ca H _))
  have eY:=af.aK bz;have bM:=bz.mut (· =r);have cJ:=eY.rd;unfold ee at cJ;by_cases aa:(aq T s.at_).kind=2
  ·rw[if_pos aa] at h;simp only[bD,dz] at h;obtain⟨rfl,rfl⟩:=h;have h0:=eY.rd.lt;have hZ:bl.get H.next=some (.row false 11 [[.int .i64 0,.int .i64 0,.str [],.str [],.int .i64 0,.an,.int .i64 0,.int .i64 0,.int .i64 0,.int .i64 0,.int .i64 0]]):=aJ.get (J.ca H _)
   have mV:=af.rd.aK (aU.trans aJ);unfold ee at mV;simp-implicitDefEqProofs(disch:=try exact ag) only[mg,reduceAdd,reduceLeDiff,reduceIte,az,Tok.v,aa,beq_self_eq_true,mV,df,hl,hZ];refine a8.2 ?_;refine f6.box (a:={kind:=1,n:=(aq T s.at_).n,pos:=(aq T s.at_).pos}) (kv:= .an) (s':=aE s) (lo:=H.next+1) af ?_ ?_ (bL _) (Nat.lt_succ_self _) (dO.nil _ _) _
   ·rw[<-aa];(repeat (first|exact bM|refine dE.bV ?_ _|refine dE.de (S:=(· =r)) ?_ (.inl rfl) _|refine dE.de ?_ (.inr (by(first|omega|(simp only[J.b6,J.e9];omega)))) _))
   ·rw[<-aa];(unfold ee;simp-implicitDefEqProofs(disch:=try exact ag) only[dD,cJ,aE,fU])
  ·rw[if_neg aa] at h;have hb:((aq T s.at_).kind==2)=false:=by simpa using aa
   by_cases U:(aq T s.at_).kind=1
   ·rw[if_pos U] at h;have fr:((aq T s.at_).kind==1)=true:=by simpa using U
    simp-implicitDefEqProofs(disch:=try exact ag) only[mg,reduceAdd,reduceLeDiff,reduceIte,az,Tok.v,hb,fr];refine aY (apO eY fx e s' h) ?_;rintro v cu ⟨m4,fa,i6⟩;refine⟨m4.1,?_⟩;have fV:=m4.get ay Z;have aq5:=J.aW fV;obtain⟨cs,rfl,hlen,dL⟩:=i6.cells;have bC:List.take 11 cs=cs:=List.take_of_length_le Z;simp-implicitDefEqProofs(disch:=try exact ag) only[mg,reduceAdd,reduceLeDiff,reduceIte,az,fV,hlen,dL,List.append_nil,bC];exact a8.2 (f6.ret af (bM.trans m4) fa.rd (bL _) i6 (by simp only[J.b6];omega) _)
   ·rw[if_neg U] at h;have fr:((aq T s.at_).kind==1)=false:=by simpa using U
    by_cases s5:(aq T s.at_).kind=3\/(aq T s.at_).kind=4
    ·rw[if_pos s5] at h;have go:W (ol (au P ao) (.ptr r 0 0) (.ptr H.next 0 0) (.ptr bl.next 0 0) (.bool true) (bl.push (.row false 4 [[.int .i64 (aq T s.at_).kind,.str (aq T s.at_).text,.int .i64 (aq T s.at_).n,.int .i64 (aq T s.at_).pos]]))) (f6 H r T aj bq e s'):=by
      by_cases al:(aq T s.at_).kind=4
      ·have lm:((aq T s.at_).kind==4)=true:=by simpa using al
       simp only[lm,bx] at h;by_cases t7:(aq T s.at_).text=[40]
       ·simp only[t7,beq_self_eq_true,bx] at h;exact yI af bM eY.rd ay Z bg (k:=193) (by rw[t7];rfl) (by simp[al,t7]) λhy pi=>abO It pi fx h
       ·have ZD:((aq T s.at_).text==[40])=false:=by simpa using t7
        simp only[ZD,bi,bD,dz] at h;obtain⟨rfl,rfl⟩:=h;refine R7 af bM eY.rd ay Z bg ?_;rcases afT (aq T s.at_).text with ah|⟨k,ah⟩
        ·exact .inl ah
        ·exact .inr ⟨k,ah,by rw[lm,ZD];rfl⟩
      ·have lm:((aq T s.at_).kind==4)=false:=by simpa using al
       simp only[lm,bi] at h;have Cg: ∀t:bk,(aq T s.at_).text=t->t≠[40]->(((aq T s.at_).kind==4)==((aq T s.at_).text==[40]))=true:=by
        intro t bC dK;rw[lm,bC,show(t==[40])=false by simpa using dK];rfl
       by_cases t1:(aq T s.at_).text=[116,114,117,101]
       ·have bZ:some (vD T s)=some (e,s'):=by rw[<-h];simp[t1]
        simp only[bD] at bZ;refine yI af bM eY.rd ay Z bg (k:=188) (by rw[t1];rfl) (Cg _ t1 cl) λhy pi=> ?_
        have:=QB pi;rw[bZ] at this;exact this
       by_cases t2:(aq T s.at_).text=[102,97,108,115,101]
       ·have bZ:some (vD T s)=some (e,s'):=by rw[<-h];simp[t2]
        simp only[bD] at bZ;refine yI af bM eY.rd ay Z bg (k:=188) (by rw[t2];rfl) (Cg _ t2 cl) λhy pi=> ?_
        have:=QB pi;rw[bZ] at this;exact this
       by_cases t3:(aq T s.at_).text=[110,117,108,108]
       ·have bZ:some (Cl T s)=some (e,s'):=by rw[<-h];simp[t3]
        simp only[bD] at bZ;refine yI af bM eY.rd ay Z bg (k:=189) (by rw[t3];rfl) (Cg _ t3 cl) λhy pi=> ?_
        have:=adS pi;rw[bZ] at this;exact this
       by_cases t4:(aq T s.at_).text=[110,101,119]
       ·have bZ:sG T n s=some (e,s'):=by rw[<-h];simp[t4]
        exact yI af bM eY.rd ay Z bg (k:=190) (by rw[t4];rfl) (Cg _ t4 cl) λhy pi=>wo pi fx e s' bZ
       by_cases t5:(aq T s.at_).text=[108,101,110]
       ·have bZ:((kg T n [40] [41] (aE s)).bind λp=>some (.mk {kind:=10,pos:=(aq T s.at_).pos} [p.1],p.2))=some (e,s'):=by rw[<-h];simp[t5]
        simp only[eT] at bZ;obtain⟨⟨aI,s1⟩,g1,g2⟩:=bZ;simp only[bD,dz] at g2;obtain⟨rfl,rfl⟩:=g2;exact yI af bM eY.rd ay Z bg (k:=191) (by rw[t5];rfl) (Cg _ t5 cl) λhy pi=>abr It pi fx g1
       by_cases t6:(aq T s.at_).text=[114,101,97,100]
       ·have bZ:some (p0 T s)=some (e,s'):=by rw[<-h];simp[t6]
        simp only[bD] at bZ;refine yI af bM eY.rd ay Z bg (k:=192) (by rw[t6];rfl) (Cg _ t6 cl) λhy pi=> ?_
        have:=ad0 pi;rw[bZ] at this;exact this
       have bZ:some (bh.zero,cL T 2 s)=some (e,s'):=by rw[<-h];simp[hA t1,hA t2,hA t3,hA t4,hA t5,hA t6]
       simp only[bD,dz] at bZ;obtain⟨rfl,rfl⟩:=bZ;refine R7 af bM eY.rd ay Z bg ?_;by_cases t7:(aq T s.at_).text=[40]
       ·exact .inr ⟨193,by rw[t7];rfl,by rw[lm,t7];rfl⟩
       ·exact .inl (by simp[j2,n3,hA t1,hA t2,hA t3,hA t4,hA t5,hA t6,hA t7])
     rcases s5 with ae|al
     ·have hY:((aq T s.at_).kind==3)=true:=by simpa using ae
      simp-implicitDefEqProofs(disch:=try exact ag) only[mg,reduceAdd,reduceLeDiff,reduceIte,az,Tok.v,hb,fr,hY];exact go
     ·have hY:((aq T s.at_).kind==3)=false:=by simp[al]
      have lm:((aq T s.at_).kind==4)=true:=by simpa using al
      simp-implicitDefEqProofs(disch:=try exact ag) only[mg,reduceAdd,reduceLeDiff,reduceIte,az,Tok.v,hb,fr,hY,lm];exact go
    ·rw[if_neg s5] at h;simp only[bD,dz] at h;obtain⟨rfl,rfl⟩:=h;have hY:((aq T s.at_).kind==3)=false:=by simp;omega
     have lm:((aq T s.at_).kind==4)=false:=by simp;omega
     simp-implicitDefEqProofs(disch:=try exact ag) only[ol,mg,reduceAdd,reduceLeDiff,reduceIte,az,Tok.v,hb,fr,hY,lm];exact J8 af bM eY.rd ay
 ·rw[if_pos (by simpa using ak)] at h;simp only[bD,dz] at h;obtain⟨rfl,rfl⟩:=h;have eX:(s.aA != 0)=true:=by simpa using ak
  simp-implicitDefEqProofs(disch:=try exact ag) only[mg,reduceAdd,reduceLeDiff,reduceIte,az,eX];exact a8.2 ⟨aU.mut _,af.aK aU,ec.leaf _ _ {kind:=0}⟩
end
section
theorem Km{N:Nat}{H0 H:J}{r:Nat}{T:List Tok}{aj bq:I}{s0 s:aw}(bt:e1 H0 r T aj bq s0)(bM:cB r H0 H)(cp:ee H r aj bq s){b3:Nat}{cs gl:List I}{e:bh}(cn:H.get H0.next=some (.row false 11 [gl]))(ct:gl.length=11)(eK:H.get b3=some (.row false 11 [cs]))(ae:H0.next<b3)
  (he:ec H (λl=>H0.next<l/\l≠b3) e (.agg cs)):W (w_ (au P ao) N (.ptr H0.next 0 0) (.ptr b3 0 0) H) (f6 H0 r T aj bq e s):=by
 have ax:=bt.rd.lt;have lV:=J.aW cn;have CY:=J.aW eK;obtain⟨uz,iZ,hlen,dL⟩:=he.cells;cases iZ;have bC:List.take 11 cs=cs:=List.take_of_length_le Z;have bb:List.drop 11 gl=[]:=List.drop_of_length_le Z;simp-implicitDefEqProofs(disch:=try exact ag) only[w_,qQ,D2,pa,reduceAdd,reduceLeDiff,reduceIte,az,cn,eK,hlen,dL,List.append_nil,bC,bb];have fp:=bM.de (.inr (bL _)) (.row false 11 [cs]);refine a8.2 ⟨fp,bt.mut fp ?_,he.bo (e_.set _ Z λl h=>by unfold bG;omega) e _⟩;unfold ee at cp ⊢;rw[J.get_set_other Z];exact cp
theorem Qb{N:Nat}(aT: ∀k,k<N->u2 k){H0:J}{r:Nat}{T:List Tok}{aj bq:I}{s0:aw}(bt:e1 H0 r T aj bq s0)(fx:bq≠ .an){b3 M:Nat}(ae:H0.next<b3)(jw:H0.next<M)(aoY:M≠b3):
  ∀(n m:Nat),n<N->n<m-> ∀(H:J) (s:aw) (e:bh) (cs gl:List I),cB r H0 H->ee H r aj bq s->H.get H0.next=some (.row false 11 [gl])->gl.length=11->H.get b3=some (.row false 11 [cs])->H.get M=some (.map sx)->
   ec H (λl=>H0.next<l/\l≠b3) e (.agg cs)-> ∀(cC:bh) (s':aw),jh T n e s=some (cC,s')->
   W (xa (au P ao) N m (.ptr r 0 0) (.ptr H0.next 0 0) (.ptr b3 0 0) (.map M) H) (f6 H0 r T aj bq cC s')
 |0,m,dX,hm,H,s,e,cs,gl,bM,cp,cn,ct,eK,Im,he,cC,s',h=>by simp[jh] at h
 |n+1,0,dX,hm,H,s,e,cs,gl,bM,cp,cn,ct,eK,Im,he,cC,s',h=>Z
 |n+1,m+1,dX,hm,H,s,e,cs,gl,bM,cp,cn,ct,eK,Im,he,cC,s',h=>by
  have ax:=bt.rd.lt;have af:=bt.mut bM cp;have CY:=J.aW eK;obtain⟨uz,iZ,hlen,dL⟩:=he.cells;cases iZ;have bC:List.take 11 cs=cs:=List.take_of_length_le Z;simp only[jh] at h;simp only[xa];rw[D2];refine aY (Bh cp) ?_;rintro _ H1 ⟨rfl,rfl⟩;refine⟨bL _,?_⟩;by_cases ak:s.aA=0
  ·have eX:(s.aA==0)=true:=by simpa using ak
   simp-implicitDefEqProofs(disch:=try exact ag) only[qQ,pa,reduceAdd,reduceLeDiff,reduceIte,az,ak,bne_self_eq_false,Bool.not_false];refine hh (mD cp af.b9) ?_;rintro _ bl ⟨rfl,aJ⟩;refine⟨aJ.1,?_⟩;cases ah:(aq T s.at_).kind==4 with
   |false=>
    simp only[eX,ah,Bool.and_false,bi,bD,dz] at h;obtain⟨rfl,rfl⟩:=h;simp-implicitDefEqProofs(disch:=try exact ag) only[qQ,pa,reduceAdd,reduceLeDiff,reduceIte,az,Tok.v,ah];exact Km bt (bM.trans (aJ.mut _)) (cp.aK aJ) (aJ.get cn) ct (aJ.get eK) ae (he.bo (e_.aK aJ λ_ h=>h) e _)
   |true=>
    simp only[eX,ah,Bool.and_self,bx] at h;simp-implicitDefEqProofs(disch:=try exact ag) only[qQ,pa,reduceAdd,reduceLeDiff,reduceIte,az,Tok.v,ah];refine aY (mD (cp.aK aJ) (af.b9.aK aJ)) ?_;rintro _ cQ ⟨rfl,bz⟩;refine⟨bz.1,?_⟩;have bK:=aJ.trans bz;have rN:=alz (aq T s.at_).text (bK.get Im);have Ev:=bK.get eK;have aq0:=J.aW Ev;have Fk:=bK.1;have i6:=he.bo (e_.aK bK λ_ h=>h) e _;have fa:=af.aK bK;have ye:=bM.trans (bK.mut _);have next: ∀(dc:J) (v:I) (gT:bh) (j9:aw),rM (λl=>H0.next<l/\l≠b3) cQ r T aj bq gT j9 v dc->jh T n gT j9=some (cC,s')->cQ.next<=dc.next/\W (qQ (xa (au P ao) N m) (.ptr b3 0 0) (.ptr r 0 0) (.ptr H0.next 0 0) (.map M) v dc) (f6 H0 r T aj bq cC s'):=by
     rintro dc v gT j9 ⟨m5,ff,pg⟩ aB;refine⟨m5.1,?_⟩;obtain⟨bU,rfl,l_,lF⟩:=pg.cells;have HF:=m5.get Ev Z;have anE:=J.aW HF;have bb:List.drop 11 cs=[]:=List.drop_of_length_le Z;simp-implicitDefEqProofs(disch:=try exact ag) only[qQ,pa,reduceAdd,reduceLeDiff,reduceIte,az,HF,l_,lF,List.append_nil,bb];have m6:=(ye.trans m5).de (.inr (Nat.le_of_lt ae)) (.row false 11 [bU]);refine Qb aT bt fx ae jw aoY n m Z Z _ j9 gT bU gl m6 ?_ ?_ ct (J.get_set_same anE) ?_ (pg.bo (e_.set _ Z λl h=>h) gT _) cC s' aB
     ·have:=ff.rd;unfold ee at this ⊢;rw[J.get_set_other Z];exact this
     ·rw[J.get_set_other Z];exact m5.get (bK.get cn) Z
     ·rw[J.get_set_other Z];exact m5.get (bK.get Im) Z
    by_cases t1:(aq T s.at_).text=[46]
    ·simp only[t1,beq_self_eq_true,bx] at h;have nH:j2 (aq T s.at_).text sx=fn 185:=by rw[t1];rfl
     simp-implicitDefEqProofs(disch:=try exact ag) only[pa,reduceAdd,reduceLeDiff,reduceIte,az,Tok.v,rN,nH,Wa,Ev,bC];simp only[fn,sw,List.nil_append,List.append_nil];refine aY (ab3 (ok:=λl=>H0.next<l/\l≠b3) fa i6 Z (λl ax=>Z)) ?_;intro v dc bA;exact next dc v _ _ bA h
    ·by_cases t2:(aq T s.at_).text=[91]
     ·simp only[t2,beq_self_eq_true,bx,show(([91]:bk)==[46])=false by rfl,bi,eT] at h;obtain⟨⟨aI,s1⟩,g1,g2⟩:=h;have nH:j2 (aq T s.at_).text sx=fn 186:=by rw[t2];rfl
      simp-implicitDefEqProofs(disch:=try exact ag) only[pa,reduceAdd,reduceLeDiff,reduceIte,az,Tok.v,rN,nH,Wa,Ev,bC];simp only[fn,sw,List.nil_append,List.append_nil];refine aY (adK (aT n Z) (ok:=λl=>H0.next<l/\l≠b3) fa fx i6 Z (λl ax=>Z) g1) ?_;intro v dc bA;exact next dc v _ _ bA g2
     ·simp only[hA t1,hA t2,bi,bD,dz] at h;obtain⟨rfl,rfl⟩:=h;have nH:j2 (aq T s.at_).text sx= .nilFunc:=by simp[j2,sx,hA t1,hA t2]
      simp-implicitDefEqProofs(disch:=try exact ag) only[qQ,pa,reduceAdd,reduceLeDiff,reduceIte,az,Tok.v,rN,nH,ail];exact Km bt ye fa.rd (bK.get cn) ct Ev ae i6
  ·have eX:(s.aA==0)=false:=by simpa using ak
   have wg:(s.aA != 0)=true:=by simpa using ak
   simp only[eX,Bool.false_and,bi,bD,dz] at h;obtain⟨rfl,rfl⟩:=h;simp-implicitDefEqProofs(disch:=try exact ag) only[qQ,pa,reduceAdd,reduceLeDiff,reduceIte,az,wg,Bool.not_true];exact Km bt bM cp cn ct eK ae he
theorem abZ{n:Nat}(wo:KY n)(It: ∀k,k<=n->u2 k):KX (n+1):=by
 intro H r T aj bq s af fx e s' h;refine cU (λ_=>ajs (n+1)) ?_;have ax:=af.rd.lt;simp only[rD,eT] at h;obtain⟨⟨aI,s1⟩,U,aa⟩:=h;have aU:=aR.push H (.row false 11 [[.int .i64 0,.int .i64 0,.str [],.str [],.int .i64 0,.an,.int .i64 0,.int .i64 0,.int .i64 0,.int .i64 0,.int .i64 0]]);simp-implicitDefEqProofs(disch:=try exact ag) only[qQ,pa,reduceAdd,reduceLeDiff,reduceIte,az];refine aY (wo (af.aK aU) fx aI s1 U) ?_;rintro v bl ⟨m2,cK,fQ⟩;refine⟨m2.1,?_⟩;have hj:=m2.1;simp only[J.b6] at hj;obtain⟨cs,rfl,hlen,dL⟩:=fQ.cells;simp-implicitDefEqProofs(disch:=try exact ag) only[qQ,pa,reduceAdd,reduceLeDiff,reduceIte,az,hlen,dL,List.append_nil]
 have bz:=aR.push bl (.row false 11 [cs]);refine aY (aaN _) ?_;rintro _ cu ⟨rfl,rfl⟩;refine⟨(aR.push _ _).1,?_⟩;have bK:=bz.bV (.map sx);simp only[qQ,pa,J.b6];have cn:=m2.get (J.ca H (.row false 11 [[.int .i64 0,.int .i64 0,.str [],.str [],.int .i64 0,.an,.int .i64 0,.int .i64 0,.int .i64 0,.int .i64 0,.int .i64 0]])) Z;refine Qb (N:=n+1) (λk ah=>It k Z) af fx (b3:=bl.next) (M:=bl.next+1) Z Z Z n (n+1) Z Z _ s1 aI cs _ (((aU.mut _).trans m2).trans (bK.mut _)) (cK.rd.aK bK) (bK.get cn) rfl ?_ ?_ ?_ e s' aa
 ·simp-implicitDefEqProofs(disch:=try exact ag) only[dD]
 ·simp-implicitDefEqProofs(disch:=try exact ag) only[dD]
 ·exact fQ.bo (λl ro els dF aX=>by
   have:=J.aW aX;unfold bG at dF;simp only[J.b6] at dF;exact⟨⟨Z,Z⟩,bK.get aX⟩) aI _
theorem adq{n:Nat}(aT:BL n){H0 H:J}{r:Nat}{T:List Tok}{aj bq:I}{s0 s:aw}(bt:e1 H0 r T aj bq s0)(fx:bq≠ .an)(bM:cB r H0 H)(cp:ee H r aj bq s)(ay:H.get H0.next=some (.row false 11 [[.int .i64 0,.int .i64 0,.str [],.str [],.int .i64 0,.an,.int .i64 0,.int .i64 0,.int .i64 0,.int .i64 0,.int .i64 0]])){ez:Nat}(al:H0.next<ez){x:bk}{k:Int}(fV:H.get ez=some (.row false 2 [[.str x,.int .i64 k]]))
  {cC:bh} {s':aw} (h:rT T (n+1) x k s=some (cC,s')):W (va (au P ao) (.ptr ez 0 0) H (.ptr r 0 0) (.ptr H0.next 0 0) (.int .i64 (aq T s.at_).pos)) (f6 H0 r T aj bq cC s'):=by
 have ax:=bt.rd.lt;have df:=bt.b9.one;have hl:=bt.bq.one;have af:=bt.mut bM cp;have hle:=bM.1;have x9:=J.aW fV;simp only[rT] at h;simp-implicitDefEqProofs(disch:=try exact ag) only[va,qK,qL,q2,reduceAdd,reduceLeDiff,reduceIte,az,fV];refine aY (Gl af x) ?_;rintro _ H1 ⟨rfl,m1,dt⟩;refine⟨m1.1,?_⟩;have dS:=m1.get ay Z;have anm:=m1.get fV Z;have Fh:=J.aW dS;cases bs:(eG T x s).1 with
 |false=>
  simp only[bs,bi,bD,dz] at h;obtain⟨rfl,rfl⟩:=h;simp-implicitDefEqProofs(disch:=try exact ag) only[va,qK,qL,q2,reduceAdd,reduceLeDiff,reduceIte,az,Bool.not_false,dS];exact a8.2 (f6.ret bt (bM.trans m1) dt.rd (bL _) (ec.leaf _ (bG (H0.next+1)) {kind:=0}) (Nat.lt_succ_self _) _)
 |true=>
  simp only[bs,bx,eT] at h;obtain⟨⟨aI,s1⟩,U,aa⟩:=h;simp only[bD,dz] at aa;obtain⟨rfl,rfl⟩:=aa;simp-implicitDefEqProofs(disch:=try exact ag) only[va,qK,qL,q2,reduceAdd,reduceLeDiff,reduceIte,az,Bool.not_true];refine aY (aT dt fx aI s1 U) ?_;rintro v bl ⟨m2,cK,fQ⟩;refine⟨m2.1,?_⟩;have sa:=m1.1;have hj:=m2.1;have cn:=m2.get dS Z;have Xb:=m2.get anm Z;have lV:=J.aW cn;have anF:=J.aW Xb;obtain⟨cs,rfl,hlen,dL⟩:=fQ.cells;have bC:List.take 11 cs=cs:=List.take_of_length_le Z;have aO: ∀l,dH P l 96 1 [(0,.agg cs)]=some (.aM l 0 1 11 (some 1),.row false 11 [cs]):=λl=>jK l cs hlen dL
  have cJ:=cK.rd;unfold ee at cJ;have h0:=cK.rd.lt;replace bM:=(bM.trans m1).trans m2;simp-implicitDefEqProofs(disch:=try exact ag) only[va,qK,qL,q2,reduceAdd,reduceLeDiff,reduceIte,az,hlen,dL,List.append_nil,bC,aO,cJ,df,hl,cn,Xb];refine a8.2 ?_;refine rM.fin (ok:=bG H0.next) (a:={kind:=k,pos:=(aq T s.at_).pos}) (kv:= .aM (bl.next+1) 0 1 11 (some 1)) (s':=fU s1) bt ?_ ?_ (dO.qO (ro:=false) ?_ (by unfold bG;omega) (fQ.new ?_ λl h=>by unfold bG;omega))
  ·(repeat (first|exact bM|refine dE.bV ?_ _|refine dE.de (S:=(· =r)) ?_ (.inl rfl) _|refine dE.de ?_ (.inr (by(first|omega|(simp only[J.b6,J.e9];omega)))) _))
  ·(unfold ee;simp-implicitDefEqProofs(disch:=try exact ag) only[dD,cJ,aE,fU])
  ·simp-implicitDefEqProofs(disch:=try exact ag) only[dD]
  ·exact dE.de (S:=λl=>l<_) ((dE.de (S:=λl=>l<_) ((dE.refl _ _).bV _) (.inl Z) _).bV _) (.inl Z) _
theorem Rr{n N:Nat}(aT:BL n){L:I->I->I->I->I->J->O}{H0 H:J}{r:Nat}{T:List Tok}{aj bq:I}{s0 s:aw}(bt:e1 H0 r T aj bq s0)(fx:bq≠ .an)(bM:cB r H0 H)(cp:ee H r aj bq s)(ay:H.get H0.next=some (.row false 11 [[.int .i64 0,.int .i64 0,.str [],.str [],.int .i64 0,.an,.int .i64 0,.int .i64 0,.int .i64 0,.int .i64 0,.int .i64 0]])){iH:Nat}{els:List (List I)}(bH:H0.next<iH)(s7:H.get iH=some (.row false 2 els)){i:Nat}(be:i<2){x:bk}{k:Int}(kN:els[i]? =some [.str x,.int .i64 k])
  {cC:bh} {s':aw} (an4:b4 T s 4 x=true->rT T (n+1) x k s=some (cC,s')) (ja:b4 T s 4 x=false-> ∀H',aR H H'->W (L (.ptr r 0 0) (.ptr H0.next 0 0) (.aM iH 0 2 2 (some 2)) (.int .i64 2) (.int .i64 ((i+1:Nat):Int)) H') (f6 H0 r T aj bq cC s')):
  W (vb (au P ao) N L (.ptr r 0 0) (.ptr H0.next 0 0) (.aM iH 0 2 2 (some 2)) (.int .i64 2) (.int .i64 (i:Int)) H) (f6 H0 r T aj bq cC s'):=by
 have ax:=bt.rd.lt;have af:=bt.mut bM cp;have Fi:=J.aW s7;have hle:=bM.1;have CW:((i:Int)<2):=Z;have anz:((i:Int)<((2:Nat):Int)):=Z;have Nn:(0:Int)<=(i:Int):=Z;have apE:((i:Int)).toNat=i:=Z;have Io:en P 200 (.aM iH 0 2 2 (some 2)) (.int .i64 (i:Int))=some (.ptr iH (0+((i:Int)).toNat) 0):=L1 Nn anz;rw[apE,Nat.zero_add] at Io;simp-implicitDefEqProofs(disch:=try exact ag) only[qK,qL,vb,q2,reduceAdd,reduceLeDiff,reduceIte,az,CW,decide_true,Io,s7,kN];have aU:=aR.push H (.row false 2 [[.str x,.int .i64 k]]);refine aY (mD (cp.aK aU) (af.b9.aK aU)) ?_;rintro _ bl ⟨rfl,aJ⟩;refine⟨aJ.1,?_⟩;have bg:=aJ.get (J.ca H (.row false 2 [[.str x,.int .i64 k]]))
 have jO:=aJ.1;simp only[J.b6] at jO;have bz:=aU.trans aJ;simp-implicitDefEqProofs(disch:=try exact ag) only[qK,qL,vb,q2,reduceAdd,reduceLeDiff,reduceIte,az,Tok.v,bg];refine aY (rq (cp.aK bz) (af.b9.aK bz) 4 x) ?_;rintro _ cu ⟨rfl,bK⟩;refine⟨bK.1,?_⟩;have cO:=bz.trans bK;cases hZ:b4 T s 4 x with
 |true=>
  simp-implicitDefEqProofs(disch:=try exact ag) only[qK,qL,vb,q2,reduceAdd,reduceLeDiff,reduceIte,az];exact adq aT bt fx (bM.trans (cO.mut _)) (cp.aK cO) (cO.get ay) Z (bK.get bg) (an4 hZ)
 |false=>
  have hw:IntKind.i64.wrap ((i:Int)+1)=((i+1:Nat):Int):=by rw[wrap_i64 Z Z];simp
  simp-implicitDefEqProofs(disch:=try exact ag) only[qK,qL,vb,q2,reduceAdd,reduceLeDiff,reduceIte,az,hw];exact ja hZ _ cO
theorem adr{n:Nat}(C5: ∀k,k<=n->BL k)(NK:KX n):BL (n+1):=by
 intro H r T aj bq s af fx e s' h;refine cU (λ_=>ajp 3) ?_;have ax:=af.rd.lt;simp only[pT] at h;have aU:=aR.push H (.row false 11 [[.int .i64 0,.int .i64 0,.str [],.str [],.int .i64 0,.an,.int .i64 0,.int .i64 0,.int .i64 0,.int .i64 0,.int .i64 0]]);have aJ:=aU.bV (.row false 2 [[.str [45],.int .i64 12],[.str [33],.int .i64 13]]);simp-implicitDefEqProofs(disch:=try exact ag) only[va,qK,qL,q2,reduceAdd,reduceLeDiff,reduceIte,az];have ay:((H.push (.row false 11 [[.int .i64 0,.int .i64 0,.str [],.str [],.int .i64 0,.an,.int .i64 0,.int .i64 0,.int .i64 0,.int .i64 0,.int .i64 0]])).push (.row false 2 [[.str [45],.int .i64 12],[.str [33],.int .i64 13]])).get H.next=some (.row false 11 [[.int .i64 0,.int .i64 0,.str [],.str [],.int .i64 0,.an,.int .i64 0,.int .i64 0,.int .i64 0,.int .i64 0,.int .i64 0]]):=by simp-implicitDefEqProofs(disch:=try exact ag) only[dD]
 have s7:((H.push (.row false 11 [[.int .i64 0,.int .i64 0,.str [],.str [],.int .i64 0,.an,.int .i64 0,.int .i64 0,.int .i64 0,.int .i64 0,.int .i64 0]])).push (.row false 2 [[.str [45],.int .i64 12],[.str [33],.int .i64 13]])).get (H.next+1)=some (.row false 2 [[.str [45],.int .i64 12],[.str [33],.int .i64 13]]):=by simp-implicitDefEqProofs(disch:=try exact ag) only[dD]
 cases n with
 |zero=>cases U:b4 T s 4 [45]<;>cases aa:b4 T s 4 [33]<;>simp[U,aa,rT,rD] at h
 |succ n=>
  simp only[BT];refine Rr (C5 n Z) af fx (aJ.mut _) (af.rd.aK aJ) ay Z s7 (i:=0) Z rfl (λU=>by rw[U] at h;exact h) λU cQ bz=> ?_
  rw[U] at h;simp only[bi] at h;have bK:=aJ.trans bz;refine Rr (C5 n Z) af fx (bK.mut _) (af.rd.aK bK) (bz.get ay) Z (bz.get s7) (i:=1) Z rfl (λaa=>by rw[aa] at h;exact h) λaa dc cO=> ?_
  rw[aa] at h;simp only[bi] at h;have e2:=bK.trans cO;have gu:=(bz.trans cO).get ay;have eo: ¬(((1+1:Nat):Int)<2):=Z;simp-implicitDefEqProofs(disch:=try exact ag) only[vb,qL,qK,reduceAdd,reduceLeDiff,reduceIte,az,eo,decide_false];rw[BS];refine aY (NK (af.aK e2) fx e s' h) ?_;rintro v fY ⟨m7,oJ,q5⟩;refine⟨m7.1,?_⟩;have s6:=m7.get gu Z;have Y2:=J.aW s6;have apk:=e2.1;have ya:=J.aW gu;obtain⟨cs,rfl,hlen,dL⟩:=q5.cells;have bC:List.take 11 cs=cs:=List.take_of_length_le Z;simp-implicitDefEqProofs(disch:=try exact ag) only[va,qK,qL,q2,reduceAdd,reduceLeDiff,reduceIte,az,s6,hlen,dL,List.append_nil,bC]
  exact a8.2 (f6.ret af ((e2.mut _).trans m7) oJ.rd (bL _) q5 Z _)
end
section
theorem ag5{N:Nat}{H0 H:J}{r:Nat}{T:List Tok}{aj bq:I}{s0 s:aw}(bt:e1 H0 r T aj bq s0)(bM:cB r H0 H)(cp:ee H r aj bq s){b3:Nat}{cs gl:List I}{e:bh}(cn:H.get H0.next=some (.row false 11 [gl]))(ct:gl.length=11)(eK:H.get b3=some (.row false 11 [cs]))(ae:H0.next<b3)
  (he:ec H (λl=>H0.next<l/\l≠b3) e (.agg cs)):W (y5 (au P ao) N (.ptr H0.next 0 0) (.ptr b3 0 0) H) (f6 H0 r T aj bq e s):=by
 have ax:=bt.rd.lt;have lV:=J.aW cn;have CY:=J.aW eK;obtain⟨uz,iZ,hlen,dL⟩:=he.cells;cases iZ;have bC:List.take 11 cs=cs:=List.take_of_length_le Z;have bb:List.drop 11 gl=[]:=List.drop_of_length_le Z;simp-implicitDefEqProofs(disch:=try exact ag) only[y5,sI,tQ,sC,sD,BR,sE,sX,reduceAdd,reduceLeDiff,reduceIte,az,cn,eK,hlen,dL,List.append_nil,bC,bb];have fp:=bM.de (.inr (bL _)) (.row false 11 [cs]);refine a8.2 ⟨fp,bt.mut fp ?_,he.bo (e_.set _ Z λl h=>by unfold bG;omega) e _⟩;unfold ee at cp ⊢;rw[J.get_set_other Z];exact cp
theorem Su{N:Nat}(aT: ∀k,k<N->mH k){H0:J}{r:Nat}{T:List Tok}{aj bq:I}{s0:aw}(bt:e1 H0 r T aj bq s0)(fx:bq≠ .an){lev:Nat}(o3:lev<5){b3:Nat}(ae:H0.next<b3):
  ∀(n m:Nat),n<N->n<m-> ∀(H:J) (s:aw) (e:bh) (cs gl:List I),cB r H0 H->ee H r aj bq s->H.get H0.next=some (.row false 11 [gl])->gl.length=11->H.get b3=some (.row false 11 [cs])->
   ec H (λl=>H0.next<l/\l≠b3) e (.agg cs)-> ∀(cC:bh) (s':aw),lG T n lev e s=some (cC,s')->
   W (y6 (au P ao) N m (.ptr r 0 0) (.int .i64 lev) (.ptr H0.next 0 0) (.ptr b3 0 0) (.int .i64 (ma T lev s)) H) (f6 H0 r T aj bq cC s')
 |0,m,dX,hm,H,s,e,cs,gl,bM,cp,cn,ct,eK,he,cC,s',h=>by simp[lG] at h
 |n+1,0,dX,hm,H,s,e,cs,gl,bM,cp,cn,ct,eK,he,cC,s',h=>Z
 |n+1,m+1,dX,hm,H,s,e,cs,gl,bM,cp,cn,ct,eK,he,cC,s',h=>by
  have ax:=bt.rd.lt;have af:=bt.mut bM cp;have CY:=J.aW eK;obtain⟨uz,iZ,hlen,dL⟩:=he.cells;cases iZ;have bC:List.take 11 cs=cs:=List.take_of_length_le Z;have bb:List.drop 11 cs=[]:=List.drop_of_length_le Z;have df:=bt.b9.one;have hl:=bt.bq.one;simp only[lG] at h;simp only[y6];by_cases ah:ma T lev s=0
  ·rw[if_pos ah] at h;simp only[bD,dz] at h;obtain⟨rfl,rfl⟩:=h;have eZ:(ma T lev s != 0)=false:=by simpa using ah
   simp-implicitDefEqProofs(disch:=try exact ag) only[BR,sD,sC,reduceAdd,reduceLeDiff,reduceIte,az,eZ];exact ag5 bt bM cp cn ct eK ae he
  ·rw[if_neg ah,eT] at h;obtain⟨⟨aI,s1⟩,U,aa⟩:=h;have eZ:(ma T lev s != 0)=true:=by simpa using ah
   simp-implicitDefEqProofs(disch:=try exact ag) only[sI,tQ,sC,sD,BR,sE,sX,reduceAdd,reduceLeDiff,reduceIte,az,eZ];refine aY (mD cp af.b9) ?_;rintro _ H1 ⟨rfl,aU⟩;refine⟨aU.1,?_⟩;have vN:=cp.aK aU;have cJ:=vN;unfold ee at cJ;have h0:=vN.lt;obtain⟨m2,mS⟩:=qD vN (aE s);have hw:IntKind.i64.wrap ((lev:Int)+1)=((lev+1:Nat):Int):=by rw[wrap_i64 Z Z];simp
   simp-implicitDefEqProofs(disch:=try exact ag) only[sI,tQ,sC,sD,sE,sX,reduceAdd,reduceLeDiff,reduceIte,az,Tok.v,cJ,df,hl,hw];have C_:=(bM.trans (aU.mut _)).trans m2;have cK:=bt.mut C_ mS;refine aY (aT n Z cK fx (lev+1) Z aI s1 U) ?_;rintro v cQ ⟨m3,eY,ml⟩;refine⟨m3.1,?_⟩;have Ml:=m2.get (aU.get eK) Z;have W_:=m3.get Ml Z;have aqZ:=J.aW W_;have s8:=m3.1;have sa:=aU.1;simp only[J.e9] at s8 ml;obtain⟨bU,rfl,l_,lF⟩:=ml.cells;have aO: ∀l,dH P l 96 2 [(0,.agg cs),(1,.agg bU)]=some (.aM l 0 2 11 (some 2),.row false 11 [cs,bU]):=λl=>B9 l cs bU hlen dL l_ lF
   have bg:=he.same;have ap2:=C_.trans m3;have anw:ec cQ (λl=>H0.next<l/\l≠b3) e (.agg cs):=he.mut ((aU.mut _|>.trans m2).trans m3) Z λ_ h=>h
   have anl:(H1.set r (.row false 6 [[aj,.int .i64 (IntKind.i64.wrap (s.at_+1)),.int .i64 s.bN,bq,.int .i64 s.aA,.int .i64 s.cw]])).get b3=some (.row false 11 [cs]):=Ml;simp-implicitDefEqProofs(disch:=try exact ag) only[sI,sC,sD,sE,sX,reduceAdd,reduceLeDiff,reduceIte,az,W_,anl,bC,bb,aO,bg,Bool.and_true,Bool.and_self];rw[tQ];have Xr:=eY.rd;have ye:cB r H0 ((cQ.push (.row false 11 [cs,bU])).set b3 (.row false 11 [[.int .i64 (ma T lev s),.int .i64 0,.str [],.str [],.int .i64 0,.aM cQ.next 0 2 11 (some 2),.int .i64 (aq T s.at_).pos,.int .i64 0,.int .i64 0,.int .i64 0,.int .i64 0]])):=(ap2.bV _).de (.inr (Nat.le_of_lt ae)) _
   have zT:ee ((cQ.push (.row false 11 [cs,bU])).set b3 (.row false 11 [[.int .i64 (ma T lev s),.int .i64 0,.str [],.str [],.int .i64 0,.aM cQ.next 0 2 11 (some 2),.int .i64 (aq T s.at_).pos,.int .i64 0,.int .i64 0,.int .i64 0,.int .i64 0]])) r aj bq s1:=by
    unfold ee at Xr ⊢;rw[J.get_set_other Z,J.gy Z];exact Xr
   refine aY (Q3 (bt.mut ye zT) fx lev o3) ?_;rintro _ dc ⟨rfl,cO⟩;refine⟨cO.1,?_⟩;simp only[sI];have anj:dc.get H0.next=some (.row false 11 [gl]):=by
    refine cO.get ?_;rw[J.get_set_other Z,J.gy Z];exact m3.get (m2.get (aU.get cn) Z) Z
   have HF:dc.get b3=some (.row false 11 [fm.cells {kind:=ma T lev s,pos:=(aq T s.at_).pos} (.aM cQ.next 0 2 11 (some 2))]):=cO.get (J.get_set_same (by simp only[J.b6];omega));refine Su aT bt fx o3 ae n m Z Z dc s1 _ _ gl (ye.trans (cO.mut _)) (zT.aK cO) anj ct HF ?_ cC s' aa;rw[lA];have iS: ∀ok:Nat->Prop,(∀l,ok l->l≠b3)-> ∀l ro els,ok l->cQ.get l=some (.row ro 11 els)->dc.get l=some (.row ro 11 els):=λok yb l ro els dF aX=>by
    refine cO.get ?_;have:=J.aW aX;rw[J.get_set_other (Ne.symm (yb l dF)),J.gy Z];exact aX
   refine⟨_,rfl,dO.B_ (ro:=false) (cO.get ?_) ⟨Z,Z⟩ (anw.bo (λl ro els dF aX=>⟨dF,iS _ (λ_ h=>h.2) l ro els dF aX⟩) e _) (ml.bo (λl ro els dF aX=> ?_) aI _)⟩
   ·rw[J.get_set_other Z];exact J.ca _ _
   ·unfold bG at dF;have a6:=J.aW Ml;simp only[J.e9] at a6;exact⟨⟨Z,Z⟩,iS (λl=>H1.next<=l) (λl h=>Z) l ro els dF aX⟩
theorem af9{n:Nat}(AB: ∀k,k<=n->mH k)(C5:BL n):mH (n+1):=by
 intro H r T aj bq s af fx lev hle e s' h;refine cU (λ_=>ajo (n+1)) ?_;have ax:=af.rd.lt;have aU:=aR.push H (.row false 11 [[.int .i64 0,.int .i64 0,.str [],.str [],.int .i64 0,.an,.int .i64 0,.int .i64 0,.int .i64 0,.int .i64 0,.int .i64 0]]);have mU:=af.rd.aK aU;unfold ee at mU;have lW:=af.rd;unfold ee at lW;have anP: ∃l i cap,bq= .aM l i 5 1 cap:=by
  obtain⟨l,i,cap,ro,els,rfl,_⟩:=af.bq.resolve_left fx;exact⟨l,i,cap,rfl⟩
 obtain⟨iu,li,lc,alg⟩:=anP;have i_:dC P .empty .len [131] [bq]=some (.int .i64 5):=by rw[alg];exact L6
 simp only[iY] at h;by_cases aB:lev=5
 ·rw[if_pos aB] at h;have Ao:((lev:Int)==5)=true:=by simp;omega
  simp-implicitDefEqProofs(disch:=try exact ag) only[sI,tQ,sC,sD,sE,sX,reduceAdd,reduceLeDiff,reduceIte,az,lW,i_,Ao];refine aY (C5 (af.aK aU) fx e s' h) ?_;rintro v bl ⟨m2,cK,fQ⟩;refine⟨m2.1,?_⟩;have cn:=m2.get (J.ca H (.row false 11 [[.int .i64 0,.int .i64 0,.str [],.str [],.int .i64 0,.an,.int .i64 0,.int .i64 0,.int .i64 0,.int .i64 0,.int .i64 0]])) Z;have io:=J.aW cn;obtain⟨cs,rfl,hlen,dL⟩:=fQ.cells;have bC:List.take 11 cs=cs:=List.take_of_length_le Z;simp-implicitDefEqProofs(disch:=try exact ag) only[sI,tQ,sC,sD,sE,sX,reduceAdd,reduceLeDiff,reduceIte,az,cn,hlen,dL,List.append_nil,bC];exact a8.2 (f6.ret af ((aU.mut _).trans m2) cK.rd (bL _) fQ (Nat.lt_succ_self _) _)
 ·rw[if_neg aB,eT] at h;obtain⟨⟨aI,s1⟩,U,aa⟩:=h;have Ao:((lev:Int)==5)=false:=by simp;omega
  have hw:IntKind.i64.wrap ((lev:Int)+1)=((lev+1:Nat):Int):=by rw[wrap_i64 Z Z];simp
  simp-implicitDefEqProofs(disch:=try exact ag) only[sI,tQ,sC,sD,sE,sX,reduceAdd,reduceLeDiff,reduceIte,az,lW,i_,Ao,hw];refine aY (AB n (bL _) (af.aK aU) fx (lev+1) Z aI s1 U) ?_;rintro v bl ⟨m2,cK,fQ⟩;refine⟨m2.1,?_⟩;have cn:=m2.get (J.ca H (.row false 11 [[.int .i64 0,.int .i64 0,.str [],.str [],.int .i64 0,.an,.int .i64 0,.int .i64 0,.int .i64 0,.int .i64 0,.int .i64 0]])) Z;have hj:=m2.1;simp only[J.b6] at hj;obtain⟨cs,rfl,hlen,dL⟩:=fQ.cells;simp-implicitDefEqProofs(disch:=try exact ag) only[sI,tQ,sC,sD,sE,sX,reduceAdd,reduceLeDiff,reduceIte,az,hlen,dL,List.append_nil];have bz:=aR.push bl (.row false 11 [cs])
  refine aY (Q3 (cK.aK bz) fx lev Z) ?_;rintro _ cu ⟨rfl,bK⟩;refine⟨bK.1,?_⟩;simp only[sE];have cO:=bz.trans bK;refine Su (N:=n+1) (λk ah=>AB k Z) af fx Z (b3:=bl.next) Z n (n+1) Z Z cu s1 aI cs _ (((aU.mut _).trans m2).trans (cO.mut _)) (cK.rd.aK cO) (cO.get cn) rfl (bK.get (J.ca _ _)) ?_ e s' aa;exact fQ.bo (λl ro els dF aX=>by
   have:=J.aW aX;unfold bG at dF;simp only[J.b6] at dF;exact⟨⟨Z,Z⟩,cO.get aX⟩) aI _
theorem T5: ∀n,n<=900000000-> ∀k,k<=n->akX k
 |0,_,k,ah=>by
  have:k=0:=Z;subst this;exact⟨λ_ _ _ _ _ _ h=>by simp[iY] at h,λ_ _ _ _ h=>by simp[pT] at h,λ_ _ _ _ h=>by simp[rD] at h,λ_ _ _ _ h=>by simp[oo] at h,λ_ _ _ _ _ _ h=>by simp[kg] at h,
   λ_ _ _ _ h=>by simp[um] at h,λ_ _ _ _ h=>by simp[sG] at h,λ_ _ _ _ h=>by simp[rR] at h⟩
 |n+1,aV,k,ah=>by
  have aT:=T5 n Z;rcases Nat.lt_or_ge k (n+1) with h|h
  ·exact aT k Z
  ·have:k=n+1:=Z;subst this;exact⟨af9 (λk ah=>(aT k ah).row) (aT n (bL _)).unary,adr (λk ah=>(aT k ah).unary) (aT n (bL _)).chain,abZ (aT n (bL _)).first λk ah=>(aT k ah).single,
    ab8 (aT n (bL _)).name (aT n (bL _)).fresh (aT n (bL _)).single,abJ (aT n (bL _)).row,adR (aT n (bL _)).list,ab_ (aT n (bL _)).single,adM Z λk ah=>(aT k ah).row⟩
end
section
theorem Zq{H:J}(a b:Int):dC P H .max [3,3] [.int .i64 a,.int .i64 b]=some (.int .i64 (if a<b then b else a)):=by
 simp only[dC,Hj]
theorem akV(l:Nat)(eI fB gL hO tr:Nat):dH P l 131 5 [(0,.aM eI 0 1 2 (some 1)),(1,.aM fB 0 1 2 (some 1)),(2,.aM gL 0 4 2 (some 4)),(3,.aM hO 0 2 2 (some 2)),(4,.aM tr 0 3 2 (some 3))]=
 some (.aM l 0 5 1 (some 5),.row false 1 [[.aM eI 0 1 2 (some 1)],[.aM fB 0 1 2 (some 1)],[.aM gL 0 4 2 (some 4)],[.aM hO 0 2 2 (some 2)],[.aM tr 0 3 2 (some 3)]]):=ad
theorem abt(H:J):W (au P ao 162 [] H) λv H'=>v≠ .an/\zL H' v/\aR H H':=by
 refine cU (λ_=>ajm 0) ?_;simp-implicitDefEqProofs(disch:=try exact ag) only[HZ,reduceAdd,reduceLeDiff,reduceIte,az,akV];refine a8.2 ⟨by simp,⟨_,_,_,_,_,rfl,J.wJ (by simp only[J.b6];omega) (by simp only[J.b6];omega),?_⟩,?_⟩
 ·intro k row ah
  match k,ah with
  |0,ah=>simp only[vf,List.getElem?_cons_zero,bD] at ah;subst ah;exact⟨_,_,_,_,_,rfl,by(simp-implicitDefEqProofs(disch:=try exact ag) only[dD];rfl),λj e bP=>by simpa using bP⟩
  |1,ah=>simp only[vf,List.getElem?_cons_zero,List.getElem?_cons_succ,bD] at ah;subst ah;exact⟨_,_,_,_,_,rfl,by(simp-implicitDefEqProofs(disch:=try exact ag) only[dD];rfl),λj e bP=>by simpa using bP⟩
  |2,ah=>simp only[vf,List.getElem?_cons_zero,List.getElem?_cons_succ,bD] at ah;subst ah;exact⟨_,_,_,_,_,rfl,by(simp-implicitDefEqProofs(disch:=try exact ag) only[dD];rfl),λj e bP=>by simpa using bP⟩
  |3,ah=>simp only[vf,List.getElem?_cons_zero,List.getElem?_cons_succ,bD] at ah;subst ah;exact⟨_,_,_,_,_,rfl,by(simp-implicitDefEqProofs(disch:=try exact ag) only[dD];rfl),λj e bP=>by simpa using bP⟩
  |4,ah=>simp only[vf,List.getElem?_cons_zero,List.getElem?_cons_succ,bD] at ah;subst ah;exact⟨_,_,_,_,_,rfl,by(simp-implicitDefEqProofs(disch:=try exact ag) only[dD];rfl),λj e bP=>by simpa using bP⟩
  |k+5,ah=>simp[vf] at ah
 ·exact(((((aR.push _ _).bV _).bV _).bV _).bV _).bV _
def lB(e:bh)(s:aw):bh×Int×Int×Int:=if s.aA=0 then(e,s.at_,0,0) else(.zero,0,s.aA,s.cw)
def lE(at_ bN:Int):aw:=⟨at_,if bN<0 then 0 else bN,0,0⟩
theorem aft(aj bq:I)(U:aj.one=true)(aa:bq.one=true)(a b:Int):cM P 133 [(0,aj),(1,.int .i64 a),(2,.int .i64 b),(3,bq)]=some (.agg [aj,.int .i64 a,.int .i64 b,bq,.int .i64 0,.int .i64 0]):=by
 cases aj<;>first|(cases U;done)|(cases bq<;>first|(cases aa;done)|kernel_rfl)
theorem afu(aj:I)(U:aj.one=true)(a:Int):cM P 133 [(0,aj),(1,.int .i64 a)]=some (.agg [aj,.int .i64 a,.int .i64 0,.an,.int .i64 0,.int .i64 0]):=by
 cases aj<;>first|(cases U;done)|kernel_rfl
theorem aco{n:Nat}(aV:n<=900000000){H:J}{T:List Tok}{aj:I}(bC:h9 H aj T)(at_ bN:Int){e:bh}{s':aw}(h:iY T n 0 (lE at_ bN)=some (e,s')):
  W (au P ao 153 [aj,.int .i64 at_,.int .i64 bN] H) λv H'=> ∃ev,v= .tuple [ev,.int .i64 (lB e s').2.1,.agg [.int .i64 (lB e s').2.2.1,.int .i64 (lB e s').2.2.2]]/\ec H' (bG H.next) (lB e s').1 ev/\aR H H':=by
 refine cU (λ_=>ajg 0) ?_;have df:=bC.one;have aU:=(aR.push H (.row false 11 [[.int .i64 0,.int .i64 0,.str [],.str [],.int .i64 0,.an,.int .i64 0,.int .i64 0,.int .i64 0,.int .i64 0,.int .i64 0]])).bV (.row false 2 [[.int .i64 0,.int .i64 0]]);simp-implicitDefEqProofs(disch:=try exact ag) only[x0,reduceAdd,reduceLeDiff,reduceIte,az,Zq];refine aY (abt _) ?_;rintro bq cQ ⟨fx,gA,bz⟩;refine⟨bz.1,?_⟩;have hl:=gA.one;have pf:=aft aj bq df hl at_ (if bN<0 then 0 else bN);have ic: ∀l,eW l (.agg [aj,.int .i64 at_,.int .i64 (if bN<0 then 0 else bN),bq,.int .i64 0,.int .i64 0])=some (.ptr l 0 0,.row false 6 [[aj,.int .i64 at_,.int .i64 (if bN<0 then 0 else bN),bq,.int .i64 0,.int .i64 0]]):=λl=>ij l _ (by simp only[List.all_cons,List.all_nil,iy,df,hl,Bool.and_self])
 simp-implicitDefEqProofs(disch:=try exact ag) only[x0,reduceAdd,reduceLeDiff,reduceIte,az,pf,ic];have bK:=aR.push cQ (.row false 6 [[aj,.int .i64 at_,.int .i64 (if bN<0 then 0 else bN),bq,.int .i64 0,.int .i64 0]]);have cO:=(aU.trans bz).trans bK;have fa:e1 (cQ.push (.row false 6 [[aj,.int .i64 at_,.int .i64 (if bN<0 then 0 else bN),bq,.int .i64 0,.int .i64 0]])) cQ.next T aj bq (lE at_ bN):=
  ⟨J.ca _ _,bC.aK cO,.inr (gA.bo λl ro n els _ aX=>bK.get aX)⟩
 refine aY (Gr ((T5 n aV n (bL _)).row) fa fx h) ?_;rintro v dc ⟨m5,ff,pg⟩;refine⟨m5.1,?_⟩;have s8:=bz.1;have ya:=m5.1;simp only[J.b6] at s8 ya pg;obtain⟨cs,rfl,hlen,dL⟩:=pg.cells;have wl:List.take 11 cs=cs:=List.take_of_length_le Z;simp-implicitDefEqProofs(disch:=try exact ag) only[x0,reduceAdd,reduceLeDiff,reduceIte,az,hlen,dL,List.append_nil];have e2:=aR.push dc (.row false 11 [cs]);refine aY (Bh (ff.rd.aK e2)) ?_;rintro _ jG ⟨rfl,rfl⟩;refine⟨bL _,?_⟩;have a7:=ff.rd.aK e2;unfold ee at a7;have nI:=ff.rd;unfold ee at nI;have qk:cQ.get H.next=some (.row false 11 [[.int .i64 0,.int .i64 0,.str [],.str [],.int .i64 0,.an,.int .i64 0,.int .i64 0,.int .i64 0,.int .i64 0,.int .i64 0]]):=by rw[bz.2 _ (by simp only[J.b6];omega)];simp-implicitDefEqProofs(disch:=try exact ag) only[dD]
 have uB:cQ.get (H.next+1)=some (.row false 2 [[.int .i64 0,.int .i64 0]]):=by rw[bz.2 _ (by simp only[J.b6];omega)];simp-implicitDefEqProofs(disch:=try exact ag) only[dD]
 have zQ:=m5.get (bK.get qk) Z;have sT:=m5.get (bK.get uB) Z;have F6:=J.aW zQ;have Oo:=J.aW sT;have nf:aR H dc:=⟨by have:=cO.1;simp only[J.b6] at this;omega,λl ax=>by rw[m5.2 l (by simp only[J.b6];omega) Z];exact cO.2 l ax⟩;by_cases ak:s'.aA=0
 ·have eX:(s'.aA != 0)=false:=by simpa using ak
  rw[show lB e s'=(e,s'.at_,0,0) by simp[lB,ak]];simp-implicitDefEqProofs(disch:=try exact ag) only[x0,reduceAdd,reduceLeDiff,reduceIte,az,eX,a7,nI,zQ,sT,hlen,dL,List.append_nil,wl,Bool.and_true];refine a8.2 ⟨_,rfl,?_,?_⟩
  ·exact pg.new (dE.de (S:=λl=>l<_) (dE.de (S:=λl=>l<_) ((dE.refl _ _).bV _) (.inl Z) _) (.inl Z) _) λl h=>by unfold bG;omega
  ·exact((nf.bV _).de (bL _) _).de Z _
 ·have eX:(s'.aA != 0)=true:=by simpa using ak
  rw[show lB e s'=(.zero,0,s'.aA,s'.cw) by simp[lB,ak]];have LV:cd (some (.agg [.int .i64 s'.aA,.int .i64 s'.cw])) (.agg [.int .i64 s'.aA,.int .i64 s'.cw])=true:=by simp[cd,I.beq,jA.beq]
  simp-implicitDefEqProofs(disch:=try exact ag) only[x0,reduceAdd,reduceLeDiff,reduceIte,az,eX,a7,nI,zQ,sT,LV,Bool.and_true];refine a8.2 ⟨_,rfl,ec.leaf _ _ {kind:=0},?_⟩;exact((nf.bV _).de (bL _) _).de Z _
def nJ(p:(bk×Int)×aw):(bk×Int)×Int×Int×Int:=if p.2.aA=0 then(p.1,p.2.at_,0,0) else(([],0),0,p.2.aA,p.2.cw)
theorem SH{H:J}{T:List Tok}{aj:I}(bC:h9 H aj T)(at_:Int):
  W (au P ao 73 [aj,.int .i64 at_] H) λv H'=>v= .tuple [.agg [.str (nJ (eJ T ⟨at_,0,0,0⟩)).1.1,.int .i64 (nJ (eJ T ⟨at_,0,0,0⟩)).1.2],.int .i64 (nJ (eJ T ⟨at_,0,0,0⟩)).2.1,.agg [.int .i64 (nJ (eJ T ⟨at_,0,0,0⟩)).2.2.1,.int .i64 (nJ (eJ T ⟨at_,0,0,0⟩)).2.2.2]]/\aR H H':=by
 refine cU (λ_=>amz 0) ?_;have df:=bC.one;generalize bg:eJ T ⟨at_,0,0,0⟩=q;have aU:=(aR.push H (.row false 2 [[.str [],.int .i64 0]])).bV (.row false 2 [[.int .i64 0,.int .i64 0]]);have pf:=afu aj df at_;have ic: ∀l,eW l (.agg [aj,.int .i64 at_,.int .i64 0,.an,.int .i64 0,.int .i64 0])=some (.ptr l 0 0,.row false 6 [[aj,.int .i64 at_,.int .i64 0,.an,.int .i64 0,.int .i64 0]]):=λl=>ij l _ (by simp only[List.all_cons,List.all_nil,iy,Bt,df,Bool.and_self])
 simp-implicitDefEqProofs(disch:=try exact ag) only[AK,reduceAdd,reduceLeDiff,reduceIte,az,pf,ic];have bK:=aU.bV (.row false 6 [[aj,.int .i64 at_,.int .i64 0,.an,.int .i64 0,.int .i64 0]]);have fa:e1 (((H.push (.row false 2 [[.str [],.int .i64 0]])).push (.row false 2 [[.int .i64 0,.int .i64 0]])).push (.row false 6 [[aj,.int .i64 at_,.int .i64 0,.an,.int .i64 0,.int .i64 0]])) (H.next+2) T aj .an ⟨at_,0,0,0⟩:=
  ⟨J.wJ (by simp only[J.b6];omega) (by simp only[J.b6];omega),bC.aK bK,.inl rfl⟩
 refine aY (K8 fa) ?_;rintro _ dc ⟨rfl,m5,ff⟩;refine⟨m5.1,?_⟩;rw[bg] at ff ⊢;have ya:=m5.1;simp only[J.b6] at ya;simp-implicitDefEqProofs(disch:=try exact ag) only[AK,reduceAdd,reduceLeDiff,reduceIte,az];have e2:=aR.push dc (.row false 2 [[.str q.1.1,.int .i64 q.1.2]]);refine aY (Bh (ff.rd.aK e2)) ?_;rintro _ jG ⟨rfl,rfl⟩;refine⟨bL _,?_⟩;have a7:=ff.rd.aK e2;unfold ee at a7;have nI:=ff.rd;unfold ee at nI;have zQ:dc.get H.next=some (.row false 2 [[.str [],.int .i64 0]]):=m5.get (by simp-implicitDefEqProofs(disch:=try exact ag) only[dD]) Z
 have sT:dc.get (H.next+1)=some (.row false 2 [[.int .i64 0,.int .i64 0]]):=m5.get (by simp-implicitDefEqProofs(disch:=try exact ag) only[dD]) Z;have F6:=J.aW zQ;have Oo:=J.aW sT;have nf:aR H dc:=⟨Z,λl ax=>by rw[m5.2 l (by simp only[J.b6];omega) Z];exact bK.2 l ax⟩;by_cases ak:q.2.aA=0
 ·have eX:(q.2.aA != 0)=false:=by simpa using ak
  rw[show nJ q=(q.1,q.2.at_,0,0) by simp[nJ,ak]];simp-implicitDefEqProofs(disch:=try exact ag) only[AK,reduceAdd,reduceLeDiff,reduceIte,az,eX,a7,nI,zQ,sT,List.append_nil,Bool.and_true];exact a8.2 ⟨rfl,((nf.bV _).de (bL _) _).de Z _⟩
 ·have eX:(q.2.aA != 0)=true:=by simpa using ak
  rw[show nJ q=(([],0),0,q.2.aA,q.2.cw) by simp[nJ,ak]];have LV:cd (some (.agg [.int .i64 q.2.aA,.int .i64 q.2.cw])) (.agg [.int .i64 q.2.aA,.int .i64 q.2.cw])=true:=by simp[cd,I.beq,jA.beq]
  simp-implicitDefEqProofs(disch:=try exact ag) only[AK,reduceAdd,reduceLeDiff,reduceIte,az,eX,a7,nI,zQ,sT,LV,Bool.and_true];exact a8.2 ⟨rfl,((nf.bV _).de (bL _) _).de Z _⟩
end
section
structure dv where
 kind:Int
 name:bk:=[]
 eQ:bk:=[]
 fS:Int:=0
 pos:Int:=0
 ref:Int:=0
inductive cy where
 |mk (a:dv) (es:List bh) (body els:List cy)
def cy.zero:cy:= .mk {kind:=0} [] [] []
def cy.at(p:Int):cy->cy
 | .mk a es b c=> .mk {a with pos:=p} es b c
def bh.kind:bh->Int
 | .mk a _=>a.kind
def bh.name:bh->bk
 | .mk a _=>a.name
def iO(e:bh):Bool:=e.kind != 4&&(e.kind != 5&&e.kind != 6)
def eP(T:List Tok)(s:aw):bh×aw:=if s.aA≠0 then(.zero,s) else match iY T 800000000 0 (lE s.at_ s.bN) with
 |some (e,s')=>if s'.aA=0 then(e,{s with at_:=s'.at_}) else(.zero,{s with aA:=s'.aA,cw:=s'.cw})
 |none=>(.zero,s)
def mo(T:List Tok)(s:aw):(bk×Int)×aw:=if(eJ T ⟨s.at_,0,0,0⟩).2.aA=0 then((eJ T ⟨s.at_,0,0,0⟩).1,{s with at_:=(eJ T ⟨s.at_,0,0,0⟩).2.at_}) else(([],0),{s with aA:=(eJ T ⟨s.at_,0,0,0⟩).2.aA,cw:=(eJ T ⟨s.at_,0,0,0⟩).2.cw})
def colonS(T:List Tok)(s:aw):aw:=(cY T [58] (aE (bif (aq T s.at_).kind != 1 then cL T 2 s else s))).2
def jz(T:List Tok)(s:aw):(bk×bk×Int)×aw:=
 if(colonS T s).aA≠0 then(([],[],0),colonS T s) else(((aq T s.at_).text,(mo T (colonS T s)).1),(mo T (colonS T s)).2)
def Ce(T:List Tok)(s:aw):cy×aw:=(.mk {kind:=1,name:=(jz T s).1.1,eQ:=(jz T s).1.2.1,fS:=(jz T s).1.2.2} [] [] [],(cY T [59] (jz T s).2).2)
def Cj(T:List Tok)(s:aw):cy×aw:=
 (.mk {kind:=2,name:=(jz T s).1.1,eQ:=(jz T s).1.2.1,fS:=(jz T s).1.2.2} [(eP T (cY T [61] (jz T s).2).2).1] [] [],(cY T [59] (eP T (cY T [61] (jz T s).2).2).2).2)
def xz(T:List Tok)(s:aw):cy×aw:=bif b4 T s 4 [59] then(.mk {kind:=7} [] [] [],(cY T [59] s).2) else(.mk {kind:=7} [(eP T s).1] [] [],(cY T [59] (eP T s).2).2)
def B1(T:List Tok)(s:aw):cy×aw:=(.mk {kind:=8} [(eP T s).1] [] [],(cY T [59] (eP T s).2).2)
def q4(T:List Tok)(e:bh)(s:aw):aw:=(cY T [61] (bif iO e then cL T 2 s else s)).2
def xC(T:List Tok)(e:bh)(s:aw):cy×aw:=
 (bif e.kind==4 then .mk {kind:=3,name:=e.name} [(eP T (q4 T e s)).1] [] [] else .mk {kind:=4} [e,(eP T (q4 T e s)).1] [] [],(cY T [59] (eP T (q4 T e s)).2).2)
def qP(T:List Tok)(s:aw):cy×aw:=bif b4 T (eP T s).2 4 [61] then xC T (eP T s).1 (eP T s).2
 else(.mk {kind:=9} [(eP T s).1] [] [],(cY T [59] (bif b4 T (eP T s).2 4 [59]&&(eP T s).1.kind != 7 then cL T 2 (eP T s).2 else(eP T s).2)).2)
mutual
def oU(T:List Tok):Nat->aw->R (List cy)
 |0,_=>none
 |n+1,s=>bif b4 T s 4 [123] then(if 50<=s.bN then some ([],cL T 4 s) else
  (pV T n [] {s with at_:=hD (s.at_+1),bN:=hD (s.bN+1)}).bind λp=>some (p.1,(cY T [125] (fU p.2)).2))
  else some ([],cL T 2 s)
def pV(T:List Tok):Nat->List cy->aw->R (List cy)
 |0,_,_=>none
 |n+1,l,s=>bif s.aA==0&& !b4 T s 4 [125] then(xD T n s).bind λp=>pV T n (l++[p.1]) p.2 else some (l,s)
def xD(T:List Tok):Nat->aw->R cy
 |0,_=>none
 |n+1,s=>(bif (aq T s.at_).kind==3 then
  (bif (aq T s.at_).text==[118,97,114] then some (Ce T (aE s))
  else bif (aq T s.at_).text==[108,101,116] then some (Cj T (aE s))
  else bif (aq T s.at_).text==[105,102] then wR T n (aE s)
  else bif (aq T s.at_).text==[119,104,105,108,101] then wV T n (aE s)
  else bif (aq T s.at_).text==[114,101,116,117,114,110] then some (xz T (aE s))
  else bif (aq T s.at_).text==[112,114,105,110,116] then some (B1 T (aE s))
  else some (qP T s)) else some (qP T s)).bind λp=>some (p.1.at (aq T s.at_).pos,p.2)
def wR(T:List Tok):Nat->aw->R cy
 |0,_=>none
 |n+1,s=>(oU T n (eP T s).2).bind λb=>bif b4 T b.2 3 [101,108,115,101] then
  (oU T n (aE b.2)).bind λc=>some (.mk {kind:=5} [(eP T s).1] b.1 c.1,c.2) else some (.mk {kind:=5} [(eP T s).1] b.1 [],b.2)
def wV(T:List Tok):Nat->aw->R cy
 |0,_=>none
 |n+1,s=>(oU T n (eP T s).2).bind λb=>some (.mk {kind:=6} [(eP T s).1] b.1 [],b.2)
end
def dx(T:List Tok)(s:aw):bh×aw:=match im T 800000000 0 s with
 |some p=>p
 |none=>(.zero,s)
def fN(T:List Tok)(s:aw):(bk×bk×Int)×aw:=(((da T s).1,(e5 T (cq T [58] (da T s).2)).1),(e5 T (cq T [58] (da T s).2)).2)
def uk(T:List Tok)(s:aw):cy×aw:=(.mk {kind:=1,name:=(fN T s).1.1,eQ:=(fN T s).1.2.1,fS:=(fN T s).1.2.2} [] [] [],cq T [59] (fN T s).2)
def ul(T:List Tok)(s:aw):cy×aw:=
 (.mk {kind:=2,name:=(fN T s).1.1,eQ:=(fN T s).1.2.1,fS:=(fN T s).1.2.2} [(dx T (cq T [61] (fN T s).2)).1] [] [],cq T [59] (dx T (cq T [61] (fN T s).2)).2)
def vH(T:List Tok)(s:aw):cy×aw:=bif b2 T s [59] then(.mk {kind:=7} [] [] [],cq T [59] s) else(.mk {kind:=7} [(dx T s).1] [] [],cq T [59] (dx T s).2)
def xe(T:List Tok)(s:aw):cy×aw:=(.mk {kind:=8} [(dx T s).1] [] [],cq T [59] (dx T s).2)
def mh(T:List Tok)(e:bh)(s:aw):aw:=cq T [61] (bif iO e then cL T 2 s else s)
def xB(T:List Tok)(e:bh)(s:aw):cy×aw:=
 (bif e.kind==4 then .mk {kind:=3,name:=e.name} [(dx T (mh T e s)).1] [] [] else .mk {kind:=4} [e,(dx T (mh T e s)).1] [] [],cq T [59] (dx T (mh T e s)).2)
def nr(T:List Tok)(s:aw):cy×aw:=bif b2 T (dx T s).2 [61] then xB T (dx T s).1 (dx T s).2
 else(.mk {kind:=9} [(dx T s).1] [] [],cq T [59] (bif b2 T (dx T s).2 [59]&&(dx T s).1.kind != 7 then cL T 2 (dx T s).2 else(dx T s).2))
mutual
def jX(T:List Tok):Nat->aw->R (List cy)
 |0,_=>none
 |n+1,s=>(mK T n [] (eE T [123] s)).bind λp=>some (p.1,f0 T [125] p.2)
def mK(T:List Tok):Nat->List cy->aw->R (List cy)
 |0,_,_=>none
 |n+1,l,s=>bif s.aA==0&& !b2 T s [125] then(rU T n s).bind λp=>mK T n (l++[p.1]) p.2 else some (l,s)
def rU(T:List Tok):Nat->aw->R cy
 |0,_=>none
 |n+1,s=>(bif b2 T s [118,97,114]||b2 T s [108,101,116] then some (bif (aq T s.at_).text==[108,101,116] then ul T (aE s) else uk T (aE s))
  else bif b2 T s [105,102] then(jX T n (dx T (aE s)).2).bind λb=>bif b2 T b.2 [101,108,115,101] then
   (jX T n (aE b.2)).bind λc=>some (.mk {kind:=5} [(dx T (aE s)).1] b.1 c.1,c.2) else some (.mk {kind:=5} [(dx T (aE s)).1] b.1 [],b.2)
  else bif b2 T s [119,104,105,108,101] then(jX T n (dx T (aE s)).2).bind λb=>some (.mk {kind:=6} [(dx T (aE s)).1] b.1 [],b.2)
  else bif b2 T s [114,101,116,117,114,110] then some (vH T (aE s))
  else bif b2 T s [112,114,105,110,116] then some (xe T (aE s))
  else some (nr T s)).bind λp=>some (p.1.at (aq T s.at_).pos,p.2)
end
end
end Go.Proofs.YtghmbpmaafnodaaGreatDoor
