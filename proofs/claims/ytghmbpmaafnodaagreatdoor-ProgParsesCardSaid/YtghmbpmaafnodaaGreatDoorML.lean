/-
  Texts of one proof, laid together: U3 U4 U5 Qa Lx Sq Pa Pb.
-/
import Derived.Test.YtghmbpmaafnodaaGreatDoorMK
import Derived.Test.YtghmbpmaafnodaaGreatDoorME
import Derived.Test.YtghmbpmaafnodaaGreatDoorMH
set_option linter.unusedVariables false
set_option linter.unusedSimpArgs false
namespace Go.Proofs.YtghmbpmaafnodaaGreatDoor
open Go.gd
open Nat (reduceAdd reduceLeDiff)
section
theorem aby{H:J}{r:Nat}{T:List Tok}{ak:I}{s:aA}(ag:c_ H r T ak s):W (aq P ao 139 [.ptr r 0 0] H) (gJ H r T ak (Cd T s).1 (Cd T s).2):=by
 refine cP (λ_=>ah8 0) ?_;have az:=ag.rd.lt;have aV:=aR.push H (.row false 9 [[.int .i64 0,.str [],.str [],.int .i64 0,.ap,.ap,.ap,.int .i64 0,.int .i64 0]]);simp-implicitDefEqProofs(disch:=try exact af) only[CC,reduceAdd,reduceLeDiff,reduceIte,aw,d_];refine a6 (Pd (ag.aK aV)) ?_;rintro _ bm ⟨rfl,m2,cJ⟩;refine⟨m2.1,?_⟩;unfold Cd;generalize jE T s=q at cJ ⊢;have g2:=m2.get (J.ca H (.row false 9 [[.int .i64 0,.str [],.str [],.int .i64 0,.ap,.ap,.ap,.int .i64 0,.int .i64 0]])) Z;have fA:=J.aX g2;simp-implicitDefEqProofs(disch:=try exact af) only[CC,reduceAdd,reduceLeDiff,reduceIte,aw,d_];have bB:=aR.push bm (.row false 2 [[.str q.1.2.1,.int .i64 q.1.2.2]])
 refine a6 (tz (cJ.aK bB) [59]) ?_;rintro _ dp ⟨rfl,m5,fg⟩;refine⟨m5.1,?_⟩;have oJ:=cJ.rd.lt;have g5:=m5.get (bB.get g2) Z;have eR:=m5.get (J.ca bm (.row false 2 [[.str q.1.2.1,.int .i64 q.1.2.2]])) Z;have tu:=J.aX g5;simp-implicitDefEqProofs(disch:=try exact af) only[CC,reduceAdd,reduceLeDiff,reduceIte,aw,d_,g5,eR];exact a_.2 (gJ.fin (a:={kind:=1,name:=q.1.1,eV:=q.1.2.1,fT:=q.1.2.2}) ag ((((aV.mut _).trans m2).trans (bB.mut _)).trans m5) fg.rd (dP.nil _ _) (ez.nil _ _) (ez.nil _ _) (bN _) (Nat.lt_succ_self _) _)
theorem dP.made{H H':J}{r n lo:Nat}{e:bp}{cs:List I}(he:ea H (bI n) e (.agg cs))(m:cC r H H')(a8:r<n)(ko:lo<=n)(U:lo<=H'.next):dP (H'.push (.row false 11 [cs])) (bI lo) [e] (.aN H'.next 0 1 11 (some 1)):=
 dP.qF (ro:=false) (J.ca _ _) U (he.mut (m.bX _) (by unfold bI;omega) λl az=>by unfold bI at*;omega)
theorem abA{H:J}{r:Nat}{T:List Tok}{ak:I}{s:aA}(aH:T.length<=20000000)(ag:c_ H r T ak s):W (aq P ao 140 [.ptr r 0 0] H) (gJ H r T ak (Cj T s).1 (Cj T s).2):=by
 refine cP (λ_=>ah9 0) ?_;have az:=ag.rd.lt;have aV:=aR.push H (.row false 9 [[.int .i64 0,.str [],.str [],.int .i64 0,.ap,.ap,.ap,.int .i64 0,.int .i64 0]]);simp-implicitDefEqProofs(disch:=try exact af) only[x2,reduceAdd,reduceLeDiff,reduceIte,aw,d_];refine a6 (Pd (ag.aK aV)) ?_;rintro _ bm ⟨rfl,m2,cJ⟩;refine⟨m2.1,?_⟩;unfold Cj;generalize jE T s=q at cJ ⊢;have g2:=m2.get (J.ca H (.row false 9 [[.int .i64 0,.str [],.str [],.int .i64 0,.ap,.ap,.ap,.int .i64 0,.int .i64 0]])) Z;have fA:=J.aX g2;simp-implicitDefEqProofs(disch:=try exact af) only[x2,reduceAdd,reduceLeDiff,reduceIte,aw,d_];have bB:=aR.push bm (.row false 2 [[.str q.1.2.1,.int .i64 q.1.2.2]])
 refine a6 (tz (cJ.aK bB) [61]) ?_;rintro _ dp ⟨rfl,m5,fg⟩;refine⟨m5.1,?_⟩;have oJ:=cJ.rd.lt;have g5:=m5.get (bB.get g2) Z;have eR:=m5.get (J.ca bm (.row false 2 [[.str q.1.2.1,.int .i64 q.1.2.2]])) Z;generalize (cZ T [61] q.2).2=mG at fg ⊢;simp-implicitDefEqProofs(disch:=try exact af) only[x2,reduceAdd,reduceLeDiff,reduceIte,aw,d_];refine a6 (yH aH fg) ?_;rintro v fW ⟨m6,hO,he⟩;refine⟨m6.1,?_⟩;obtain⟨cs,rfl,fB,cR⟩:=he.cells;have t1:List.take 11 cs=cs:=List.take_of_length_le Z;have g6:=m6.get g5 Z;have gI:=m6.get eR Z;generalize eU T mG=FR at hO he ⊢;simp-implicitDefEqProofs(disch:=try exact af) only[x2,reduceAdd,reduceLeDiff,reduceIte,aw,d_,fB,cR,List.append_nil]
 have iX:=aR.push fW (.row false 11 [cs]);refine a6 (tz (hO.aK iX) [59]) ?_;rintro _ gV ⟨rfl,m9,qd⟩;refine⟨m9.1,?_⟩;have YU:=hO.rd.lt;have g9:=m9.get (iX.get g6) Z;have sq:=m9.get (iX.get gI) Z;have wA:=m9.get (J.ca fW (.row false 11 [cs])) Z;have Zt:=J.aX g9;have aM: ∀l,dK P l 96 1 [(0,.agg cs)]=some (.aN l 0 1 11 (some 1),.row false 11 [cs]):=λl=>jP l cs fB cR
 have NQ:=fg.rd.lt;have aoS:=J.aX g5;simp-implicitDefEqProofs(disch:=try exact af) only[x2,reduceAdd,reduceLeDiff,reduceIte,aw,d_,g9,sq,wA,t1,aM];exact a_.2 (gJ.fin (a:={kind:=2,name:=q.1.1,eV:=q.1.2.1,fT:=q.1.2.2}) ag (((((((aV.mut _).trans m2).trans (bB.mut _)).trans m5).trans m6).trans ((iX.mut _).trans m9)).bX _) (qd.rd.aK (aR.push _ _)) (dP.made he ((iX.mut _).trans m9) NQ (lo:=H.next+1) Z Z) (ez.nil _ _) (ez.nil _ _) (bN _) (Nat.lt_succ_self _) _)
theorem aaL{H:J}{r:Nat}{T:List Tok}{ak:I}{s:aA}(aH:T.length<=20000000)(ag:c_ H r T ak s):W (aq P ao 144 [.ptr r 0 0] H) (gJ H r T ak (BV T s).1 (BV T s).2):=by
 refine cP (λ_=>aic 0) ?_;have az:=ag.rd.lt;have aV:=aR.push H (.row false 9 [[.int .i64 0,.str [],.str [],.int .i64 0,.ap,.ap,.ap,.int .i64 0,.int .i64 0]]);simp-implicitDefEqProofs(disch:=try exact af) only[CE,reduceAdd,reduceLeDiff,reduceIte,aw,d_];refine a6 (yH aH (ag.aK aV)) ?_;rintro v fW ⟨m6,hO,he⟩;refine⟨m6.1,?_⟩;unfold BV;obtain⟨cs,rfl,fB,cR⟩:=he.cells;have t1:List.take 11 cs=cs:=List.take_of_length_le Z;have g6:=m6.get (J.ca H (.row false 9 [[.int .i64 0,.str [],.str [],.int .i64 0,.ap,.ap,.ap,.int .i64 0,.int .i64 0]])) Z;generalize eU T s=FR at hO he ⊢;simp-implicitDefEqProofs(disch:=try exact af) only[CE,reduceAdd,reduceLeDiff,reduceIte,aw,d_,fB,cR,List.append_nil]
 have iX:=aR.push fW (.row false 11 [cs]);refine a6 (tz (hO.aK iX) [59]) ?_;rintro _ gV ⟨rfl,m9,qd⟩;refine⟨m9.1,?_⟩;have YU:=hO.rd.lt;have aoT:=J.aX g6;have g9:=m9.get (iX.get g6) Z;have wA:=m9.get (J.ca fW (.row false 11 [cs])) Z;have Zt:=J.aX g9;have aM: ∀l,dK P l 96 1 [(0,.agg cs)]=some (.aN l 0 1 11 (some 1),.row false 11 [cs]):=λl=>jP l cs fB cR
 simp-implicitDefEqProofs(disch:=try exact af) only[CE,reduceAdd,reduceLeDiff,reduceIte,aw,d_,g9,wA,t1,aM];exact a_.2 (gJ.fin (a:={kind:=8}) ag ((((aV.mut _).trans m6).trans ((iX.mut _).trans m9)).bX _) (qd.rd.aK (aR.push _ _)) (dP.made he ((iX.mut _).trans m9) (by simp only[J.b2];omega) (lo:=H.next+1) (by simp only[J.b2];omega) Z) (ez.nil _ _) (ez.nil _ _) (bN _) (Nat.lt_succ_self _) _)
theorem R5{H0 H:J}{r:Nat}{T:List Tok}{ak:I}{s0 s:aA}(bs:c_ H0 r T ak s0)(bP:cC r H0 H)(cp:c7 H r ak s){es:List bp}{ev:I}(ah:dP H (bI (H0.next+2)) es ev)(g2:H.get H0.next=some (.row false 9 [[.int .i64 0,.str [],.str [],.int .i64 0,.ap,.ap,.ap,.int .i64 0,.int .i64 0]]))(g3:H.get (H0.next+1)=some (.row false 9 [dH.cells {kind:=7} ev .ap .ap])):
  W (y2 (aq P ao) (.ptr r 0 0) (.ptr H0.next 0 0) (.ptr (H0.next+1) 0 0) H) (gJ H0 r T ak (.mk {kind:=7} es [] []) (cZ T [59] s).2):=by
 have az:=bs.rd.lt;have N2:=J.aX g3;have bt:=ah.gi;rw[y2];refine a6 (tz (bs.mut bP cp) [59]) ?_;rintro _ H1 ⟨rfl,m1,du⟩;refine⟨m1.1,?_⟩;have aa:=m1.get g2 Z;have ae:=m1.get g3 Z;have fA:=J.aX aa;simp only[dH.cells] at ae;simp-implicitDefEqProofs(disch:=try exact af) only[x3,reduceAdd,reduceLeDiff,reduceIte,aw,d_,aa,ae,bt];exact a_.2 (gJ.fin (a:={kind:=7}) bs (bP.trans m1) du.rd (ah.bo (e_.mut m1 (ok':=bI (H0.next+1)) (by unfold bI;omega) λl az=>by unfold bI at*;omega)) (ez.nil _ _) (ez.nil _ _) (bN _) (Nat.lt_succ_self _) _)
theorem abC{H:J}{r:Nat}{T:List Tok}{ak:I}{s:aA}(aH:T.length<=20000000)(ag:c_ H r T ak s):W (aq P ao 143 [.ptr r 0 0] H) (gJ H r T ak (xC T s).1 (xC T s).2):=by
 refine cP (λ_=>aib 0) ?_;have az:=ag.rd.lt;simp-implicitDefEqProofs(disch:=try exact af) only[x3,reduceAdd,reduceLeDiff,reduceIte,aw,d_];have aJ:=(aR.push H (.row false 9 [[.int .i64 0,.str [],.str [],.int .i64 0,.ap,.ap,.ap,.int .i64 0,.int .i64 0]])).bX (.row false 9 [dH.cells {kind:=7} .ap .ap .ap]);refine a6 (BC (ag.rd.aK aJ) (ag.cf.aK aJ) 4 [59]) ?_;rintro _ ct ⟨rfl,bK⟩;refine⟨bK.1,?_⟩;have mF:=bK.1;simp only[J.b2] at mF;have g2:ct.get H.next=some (.row false 9 [[.int .i64 0,.str [],.str [],.int .i64 0,.ap,.ap,.ap,.int .i64 0,.int .i64 0]]):=bK.get (by simp-implicitDefEqProofs(disch:=try exact af) only[dB])
 have g3:ct.get (H.next+1)=some (.row false 9 [dH.cells {kind:=7} .ap .ap .ap]):=bK.get (J.ca _ _);have fa:=(ag.aK aJ).aK bK;unfold xC;cases ax:b7 T s 4 [59] with
 |true=>
  simp-implicitDefEqProofs(disch:=try exact af) only[x3,reduceAdd,reduceLeDiff,reduceIte,aw,d_];exact R5 ag ((aJ.trans bK).mut _) fa.rd (dP.nil _ _) g2 g3
 |false=>
  simp-implicitDefEqProofs(disch:=try exact af) only[x3,reduceAdd,reduceLeDiff,reduceIte,aw,d_];refine a6 (yH aH fa) ?_;rintro v fW ⟨m6,hO,he⟩;refine⟨m6.1,?_⟩;obtain⟨cs,rfl,fB,cR⟩:=he.cells;have YT:=fa.rd.lt;have aa:=m6.get g2 Z;have ae:=m6.get g3 Z;have gS:=J.aX ae;generalize eU T s=FR at hO he ⊢;have aM: ∀l,dK P l 96 1 [(0,.agg cs)]=some (.aN l 0 1 11 (some 1),.row false 11 [cs]):=λl=>jP l cs fB cR
  have h_:=ae;simp only[dH.cells] at h_;simp-implicitDefEqProofs(disch:=try exact af) only[x3,reduceAdd,reduceLeDiff,reduceIte,aw,d_,aM,h_];have bP:=((aJ.trans bK).mut (· =r)).trans m6;have A8:=m6.1;refine R5 ag (H:=(fW.push (.row false 11 [cs])).set (H.next+1) (.row false 9 [dH.cells {kind:=7} (.aN fW.next 0 1 11 (some 1)) .ap .ap])) (es:=[FR.1]) (ev:= .aN fW.next 0 1 11 (some 1)) ?_ ?_ ?_ ?_ ?_
  ·exact(bP.bX _).db (.inr Z) _
  ·have h:=hO.rd;unfold c7 at h ⊢;rw[J.get_set_other Z,J.gD Z];exact h
  ·exact(dP.made he (dC.refl _ _) YT (lo:=H.next+2) Z Z).bo (e_.set _ (by unfold bI;omega) λ_ h=>h)
  ·simp-implicitDefEqProofs(disch:=try exact af) only[dB,aa]
  ·exact J.get_set_same (by simp only[J.b2];omega)
end
section
theorem ea.below{H:J}{ok:Nat->Prop}{e:bp}{v:I}(h:ea H ok e v):ea H (λl=>ok l/\l<H.next) e v:=ea.bo (λ_ _ _ h g=>⟨⟨h,J.aX g⟩,g⟩) e v h
theorem xv.fin{ok:Nat->Prop}{H dR:J}{r:Nat}{T:List Tok}{ak:I}{s s':aA}{a:dH}{es:List bp}{ev:I}{x:Nat}(ag:c_ H r T ak s)(m:cC r H dR)(bd:c7 dR r ak s')(U:dP dR (λl=>ok l/\l≠x) es ev)(ax:H.next<=x)(hj:dY):
  xv ok H r T ak (.mk a es [] []) s' (.agg (a.cells ev .ap .ap)) (dR.set x hj):=by
 have az:=ag.rd.lt;have fr:=m.db (.inr ax) hj;refine⟨fr,ag.mut fr ?_,rz.2 ⟨ev,.ap,.ap,rfl,U.bo (e_.set _ (by simp) λl h=>h.1),ez.nil _ _,ez.nil _ _⟩⟩;unfold c7 at bd ⊢;rw[J.get_set_other Z];exact bd
theorem afv{ok:Nat->Prop}{H0 H:J}{r:Nat}{T:List Tok}{ak:I}{s0 s:aA}(aH:T.length<=20000000)(bs:c_ H0 r T ak s0)(bP:cC r H0 H)(cp:c7 H r ak s){a:f6}{bQ:List bp}{kv:I}(he:ea H0 ok (.mk a bQ) (.agg (a.cells kv)))(a8: ¬ok r)(oY: ∀l,H0.next<=l->ok l)
  (g3:H.get H0.next=some (.row false 11 [a.cells kv])) (g4:H.get (H0.next+1)=some (.row false 9 [[.int .i64 0,.str [],.str [],.int .i64 0,.ap,.ap,.ap,.int .i64 0,.int .i64 0]])):
  W (w5 (aq P ao) (.ptr r 0 0) (.ptr H0.next 0 0) (.ptr (H0.next+1) 0 0) H) (xv ok H0 r T ak (bif a.kind==4 then .mk {kind:=3,name:=a.name} [(eU T (cZ T [61] s).2).1] [] [] else .mk {kind:=4} [.mk a bQ,(eU T (cZ T [61] s).2).1] [] []) (cZ T [59] (eU T (cZ T [61] s).2).2).2):=by
 have az:=bs.rd.lt;have aqS:=J.aX g4;rw[w5];refine a6 (tz (bs.mut bP cp) [61]) ?_;rintro _ H1 ⟨rfl,m1,du⟩;refine⟨m1.1,?_⟩;have fB:=m1.1;generalize (cZ T [61] s).2=s1 at du ⊢;simp-implicitDefEqProofs(disch:=try exact af) only[sX,reduceAdd,reduceLeDiff,reduceIte,aw,d_];refine a6 (yH aH du) ?_;rintro v bm ⟨m2,cJ,bA⟩;refine⟨m2.1,?_⟩;have n2:=m2.1;obtain⟨cs,rfl,bM,cR⟩:=bA.cells;generalize eU T s1=bc at cJ bA ⊢;simp-implicitDefEqProofs(disch:=try exact af) only[sX,reduceAdd,reduceLeDiff,reduceIte,aw,d_,bM,cR,List.append_nil];have bB:=aR.push bm (.row false 11 [cs]);refine a6 (tz (cJ.aK bB) [59]) ?_;rintro _ ct ⟨rfl,m4,fa⟩
 refine⟨m4.1,?_⟩;have mF:=m4.1;simp only[J.b2] at mF;have oJ:=cJ.rd.lt;have dL:=m4.get (bB.get (m2.get (m1.get g3 Z) Z)) Z;have gf:=m4.get (bB.get (m2.get (m1.get g4 Z) Z)) Z;have jB:=m4.get (J.ca bm (.row false 11 [cs])) Z;have Nx:=J.aX gf;have m24:=(bB.mut (· =r)).trans m4;have sn:=(((bP.trans m1).trans m2).trans m24);have t1:List.take 11 cs=cs:=List.take_of_length_le Z;have dM: ∀l,bI H1.next l->ok l/\l≠H0.next+1:=λl h=>by
  unfold bI at h;exact⟨oY l Z,Z⟩
 have Fj:=bA.mut (ok':=λl=>ok l/\l≠H0.next+1) m24 (by unfold bI;have:=du.rd.lt;omega) dM;have bt:=dP.gi (lD.1 he).choose_spec.2;obtain⟨Nv,wh,M_⟩:=lD.1 he;have Ev:=M_.gi;have ik:Nv=kv:=by
  have:=congrArg (λv=>match v with|I.agg cs=>cs[5]? |_=>none) wh;simpa [f6.cells] using this.symm
 rw[ik] at Ev;have jc:ea ct (λl=>ok l/\l≠H0.next+1) (.mk a bQ) (.agg (a.cells kv)):=he.below.mut sn (λh=>a8 h.1) λl h=>⟨h.1,Z⟩
 have A9:(a.cells kv).all I.one=true:=by simp only[f6.cells,List.all_cons,List.all_nil,iF,jO,Ev,Bool.and_self]
 cases ah:a.kind==4 with
 |true=>
  have aM: ∀l,dK P l 96 1 [(0,.agg cs)]=some (.aN l 0 1 11 (some 1),.row false 11 [cs]):=λl=>jP l cs bM cR
  simp only[f6.cells] at dL;simp-implicitDefEqProofs(disch:=try exact af) only[sX,reduceAdd,reduceLeDiff,reduceIte,aw,d_,dL,gf,jB,ah,t1,aM];exact a_.2 (xv.fin (a:={kind:=3,name:=a.name}) bs (sn.bX _) (fa.rd.aK (aR.push _ _)) (dP.qF (ro:=false) (J.ca _ _) ⟨oY _ Z,Z⟩ (Fj.aK (aR.push _ _))) Z _)
 |false=>
  have aM: ∀l,dK P l 96 2 [(0,.agg (a.cells kv)),(1,.agg cs)]=some (.aN l 0 2 11 (some 2),.row false 11 [a.cells kv,cs]):=λl=>B7 l (a.cells kv) cs rfl A9 bM cR
  have Ft:=dL;simp only[f6.cells] at Ft aM;simp-implicitDefEqProofs(disch:=try exact af) only[sX,reduceAdd,reduceLeDiff,reduceIte,aw,d_,Ft,gf,jB,ah,t1,aM];exact a_.2 (xv.fin (a:={kind:=4}) bs (sn.bX _) (fa.rd.aK (aR.push _ _)) (dP.B8 (ro:=false) (J.ca _ _) ⟨oY _ Z,Z⟩ (jc.aK (aR.push _ _)) (Fj.aK (aR.push _ _))) Z _)
theorem abD{ok:Nat->Prop}{H:J}{r:Nat}{T:List Tok}{ak:I}{s:aA}(aH:T.length<=20000000)(ag:c_ H r T ak s){e:bp}{v:I}(he:ea H ok e v)(a8: ¬ok r)(oY: ∀l,H.next<=l->ok l):W (aq P ao 138 [.ptr r 0 0,v] H) (xv ok H r T ak (xE T e s).1 (xE T e s).2):=by
 refine cP (λ_=>ah7 0) ?_;have az:=ag.rd.lt;cases e with|mk a bQ=>
 obtain⟨kv,rfl,ah⟩:=lD.1 he;have js:=ah.gi;have A9:(a.cells kv).all I.one=true:=by simp only[f6.cells,List.all_cons,List.all_nil,iF,jO,js,Bool.and_self]
 have ij: ∀l,eK l (.agg (a.cells kv))=some (.ptr l 0 0,.row false 11 [a.cells kv]):=λl=>h8 l _ A9
 simp only[f6.cells] at ij ⊢;have aJ:=(aR.push H (.row false 11 [a.cells kv])).bX (.row false 9 [[.int .i64 0,.str [],.str [],.int .i64 0,.ap,.ap,.ap,.int .i64 0,.int .i64 0]]);have cJ:=ag.aK aJ;have fin: ∀(cT:J),cC r H cT->c7 cT r ak (bif jH (.mk a bQ) then cS T 2 s else s)->cT.get H.next=some (.row false 11 [a.cells kv])->cT.get (H.next+1)=some (.row false 9 [[.int .i64 0,.str [],.str [],.int .i64 0,.ap,.ap,.ap,.int .i64 0,.int .i64 0]])->
  W (w5 (aq P ao) (.ptr r 0 0) (.ptr H.next 0 0) (.ptr (H.next+1) 0 0) cT) (xv ok H r T ak (xE T (.mk a bQ) s).1 (xE T (.mk a bQ) s).2):=λcT m3 lp g3 g4=>afv aH ag m3 lp he a8 oY g3 g4
 have g3:((H.push (.row false 11 [a.cells kv])).push (.row false 9 [[.int .i64 0,.str [],.str [],.int .i64 0,.ap,.ap,.ap,.int .i64 0,.int .i64 0]])).get H.next=some (.row false 11 [a.cells kv]):=by simp-implicitDefEqProofs(disch:=try exact af) only[dB]
 have g4:=J.ca (H.push (.row false 11 [a.cells kv])) (.row false 9 [[.int .i64 0,.str [],.str [],.int .i64 0,.ap,.ap,.ap,.int .i64 0,.int .i64 0]]);have anN:=g3;simp only[f6.cells] at anN;cases gf:(a.kind != 4) with
 |false=>
  have hex:jH (.mk a bQ)=false:=by simp only[jH,bp.kind,gf,Bool.false_and]
  rw[hex] at fin;simp-implicitDefEqProofs(disch:=try exact af) only[sX,reduceAdd,reduceLeDiff,reduceIte,aw,d_,ij,gf];exact fin _ (aJ.mut _) cJ.rd g3 g4
 |true=>
  cases jB:(a.kind != 5) with
  |false=>
   have hex:jH (.mk a bQ)=false:=by simp only[jH,bp.kind,gf,jB,Bool.false_and,Bool.and_false]
   rw[hex] at fin;simp-implicitDefEqProofs(disch:=try exact af) only[sX,reduceAdd,reduceLeDiff,reduceIte,aw,d_,ij,gf,jB];exact fin _ (aJ.mut _) cJ.rd g3 g4
  |true=>
   cases j0:(a.kind != 6) with
   |false=>
    have hex:jH (.mk a bQ)=false:=by simp only[jH,bp.kind,gf,jB,j0,Bool.and_false]
    rw[hex] at fin;simp-implicitDefEqProofs(disch:=try exact af) only[sX,reduceAdd,reduceLeDiff,reduceIte,aw,d_,ij,gf,jB,j0];exact fin _ (aJ.mut _) cJ.rd g3 g4
   |true=>
    have hex:jH (.mk a bQ)=true:=by simp only[jH,bp.kind,gf,jB,j0,Bool.and_self]
    rw[hex] at fin;simp-implicitDefEqProofs(disch:=try exact af) only[sX,reduceAdd,reduceLeDiff,reduceIte,aw,d_,ij,gf,jB,j0];refine a6 (Bp cJ 2) ?_;rintro _ cT ⟨rfl,m3,e2⟩;refine⟨m3.1,?_⟩;exact fin cT ((aJ.mut _).trans m3) e2.rd (m3.get g3 Z) (m3.get g4 (by simp only[J.b2] at*;omega))
theorem Kk{H0 H:J}{r:Nat}{T:List Tok}{ak:I}{s0 s:aA}(bs:c_ H0 r T ak s0)(bP:cC r H0 H)(cp:c7 H r ak s){e:bp}{cs:List I}{b:Nat}(he:ea H (bI (H0.next+1)) e (.agg cs))(ax:H0.next<b)(g2:H.get H0.next=some (.row false 9 [[.int .i64 0,.str [],.str [],.int .i64 0,.ap,.ap,.ap,.int .i64 0,.int .i64 0]]))(g3:H.get b=some (.row false 11 [cs])):
  W (yY (aq P ao) (.ptr r 0 0) (.ptr H0.next 0 0) (.ptr b 0 0) H) (gJ H0 r T ak (.mk {kind:=9} [e] [] []) (cZ T [59] s).2):=by
 have az:=bs.rd.lt;rw[yY];refine a6 (tz (bs.mut bP cp) [59]) ?_;rintro _ H1 ⟨rfl,m1,du⟩;refine⟨m1.1,?_⟩;obtain⟨uA,jb,bM,cR⟩:=he.cells;cases jb;have aa:=m1.get g2 Z;have ae:=m1.get g3 Z;have fA:=J.aX aa;have t1:List.take 11 cs=cs:=List.take_of_length_le Z;have aM: ∀l,dK P l 96 1 [(0,.agg cs)]=some (.aN l 0 1 11 (some 1),.row false 11 [cs]):=λl=>jP l cs bM cR
 simp-implicitDefEqProofs(disch:=try exact af) only[r1,reduceAdd,reduceLeDiff,reduceIte,aw,d_,aa,ae,t1,aM];exact a_.2 (gJ.fin (a:={kind:=9}) bs ((bP.trans m1).bX _) (du.rd.aK (aR.push _ _)) (dP.made he m1 Z (lo:=H0.next+1) Z Z) (ez.nil _ _) (ez.nil _ _) (bN _) (Nat.lt_succ_self _) _)
theorem Pb{H:J}{r:Nat}{T:List Tok}{ak:I}{s:aA}(aH:T.length<=20000000)(ag:c_ H r T ak s):W (aq P ao 124 [.ptr r 0 0] H) (gJ H r T ak (qH T s).1 (qH T s).2):=by
 refine cP (λ_=>ahZ 0) ?_;have az:=ag.rd.lt;have aV:=aR.push H (.row false 9 [[.int .i64 0,.str [],.str [],.int .i64 0,.ap,.ap,.ap,.int .i64 0,.int .i64 0]]);simp-implicitDefEqProofs(disch:=try exact af) only[r1,reduceAdd,reduceLeDiff,reduceIte,aw,d_];refine a6 (yH aH (ag.aK aV)) ?_;rintro v bm ⟨m2,cJ,he⟩;refine⟨m2.1,?_⟩;have n2:=m2.1;simp only[J.b2] at n2;unfold qH;obtain⟨cs,rfl,bM,cR⟩:=he.cells;have t1:List.take 11 cs=cs:=List.take_of_length_le Z;have g2:=m2.get (J.ca H (.row false 9 [[.int .i64 0,.str [],.str [],.int .i64 0,.ap,.ap,.ap,.int .i64 0,.int .i64 0]])) Z;generalize eU T s=bc at cJ he ⊢
 simp-implicitDefEqProofs(disch:=try exact af) only[r1,reduceAdd,reduceLeDiff,reduceIte,aw,d_,bM,cR,List.append_nil];have bB:=aR.push bm (.row false 11 [cs]);refine a6 (BC (cJ.rd.aK bB) (cJ.cf.aK bB) 4 [61]) ?_;rintro _ ct ⟨rfl,bK⟩;refine⟨bK.1,?_⟩;have mF:=bK.1;simp only[J.b2] at mF;have pf:=bB.trans bK;have g4:=pf.get g2;have h7:=J.aX g4;have eZ:=bK.get (J.ca bm (.row false 11 [cs]));have jc:ea ct (bI (H.next+1)) bc.1 (.agg cs):=ea.bo (e_.aK pf λl az=>by unfold bI at*;simp only[J.b2] at az;omega) _ _ he;have bP:=((aV.mut (· =r)).trans m2).trans (pf.mut _);have fa:=cJ.aK pf;cases ax:b7 T bc.2 4 [61] with
 |true=>
  simp-implicitDefEqProofs(disch:=try exact af) only[r1,reduceAdd,reduceLeDiff,reduceIte,aw,d_,eZ,t1];refine a6 (abD aH fa jc (by unfold bI;omega) (λl az=>by unfold bI;omega)) ?_;rintro w dp ⟨m5,fg,hw⟩;refine⟨m5.1,?_⟩;obtain⟨bU,rfl,d1,dd⟩:=hw.cells;have tv:List.take 9 bU=bU:=List.take_of_length_le Z;have g5:=m5.get g4 Z;have tu:=J.aX g5;simp-implicitDefEqProofs(disch:=try exact af) only[r1,reduceAdd,reduceLeDiff,reduceIte,aw,d_,g5,d1,dd,tv,List.append_nil];exact a_.2 (gJ.ret ag (bP.trans m5) fg.rd (bN _) hw (Nat.lt_succ_self _) _)
 |false=>
  simp-implicitDefEqProofs(disch:=try exact af) only[r1,reduceAdd,reduceLeDiff,reduceIte,aw,d_];refine a6 (BC fa.rd fa.cf 4 [59]) ?_;rintro _ dp ⟨rfl,c8⟩;refine⟨c8.1,?_⟩;have hE:=c8.get eZ;have g5:=c8.get g4;have fg:=fa.aK c8;have pa:=jc.aK c8;have Nz:=bP.trans (c8.mut _);cases Ib:b7 T bc.2 4 [59] with
  |false=>
   simp-implicitDefEqProofs(disch:=try exact af) only[r1,reduceAdd,reduceLeDiff,reduceIte,aw,d_];simp only[Bool.false_and,bj];exact Kk ag Nz fg.rd pa Z g5 hE
  |true=>
   rcases fR:bc.1 with⟨a,bQ⟩;rw[fR] at pa;obtain⟨kv,jb,-⟩:=lD.1 pa;simp only[I.agg.injEq] at jb;subst jb;have An:=hE;simp only[f6.cells] at An;cases ah:(a.kind != 7) with
   |false=>
    simp-implicitDefEqProofs(disch:=try exact af) only[r1,reduceAdd,reduceLeDiff,reduceIte,aw,d_,An,ah];simp only[bp.kind,ah,Bool.and_false,bj];exact Kk ag Nz fg.rd pa Z g5 hE
   |true=>
    simp-implicitDefEqProofs(disch:=try exact af) only[r1,reduceAdd,reduceLeDiff,reduceIte,aw,d_,An,ah];simp only[bp.kind,ah,Bool.and_self,bC];refine a6 (Bp fg 2) ?_;rintro _ fW ⟨rfl,m6,hO⟩;refine⟨m6.1,?_⟩;exact Kk ag (Nz.trans m6) hO.rd (pa.mut m6 (by unfold bI;omega) λ_ h=>h) Z (m6.get g5 Z) (m6.get hE Z)
end
section
theorem gE.append{H:J}{ok:Nat->Prop}: ∀(es:List cE) (cs:List (List I)) (e:cE) (c:List I),gE H ok es cs->cs.length=es.length->h9 H ok e (.agg c)->gE H ok (es++[e]) (cs++[c])
 |[],[],e,c,_,_,h=>by
  simp only[List.nil_append];rw[gE,gE];exact⟨h,trivial⟩
 |[],_::_,e,c,_,az,_=>by simp at az
 |_::_,[],e,c,h,_,_=>by rw[gE] at h;exact h.elim
 |aI::es,bM::cs,e,c,h,az,he=>by
  rw[gE] at h;simp only[List.cons_append];rw[gE];exact⟨h.1,gE.append es cs e c h.2 (by simpa using az) he⟩
theorem My:P.underlying 44=some (.slice 98):=ad
theorem WG:rv P 98=some 136:=ad
theorem L4:j2 P 98=some (.agg [.int .i64 0,.str [],.str [],.int .i64 0,.ap,.ap,.ap,.int .i64 0,.int .i64 0]):=ad
theorem aeP{H:J}{L:Nat}{cs:List I}{cap:Option Nat}{ro:Bool}(aZ:H.get L=some (.row ro 9 [cs])):fQ P H [44,44] .ap (.aN L 0 1 9 cap)=some (.aN H.next 0 1 9 none,H.push (.row false 9 [cs])):=by
 simp[fQ,My,CK,WG,L4,sM,pV,aZ,I.cells]
theorem afL{H:J}{L l n:Nat}{cs:List I}{els:List (List I)}{cap:Option Nat}{ro:Bool}(aZ:H.get L=some (.row ro 9 [cs]))(az:H.get l=some (.row false 9 els))(aU:els.length=n)(ax:n<=1000000000):fQ P H [44,44] (.aN l 0 n 9 none) (.aN L 0 1 9 cap)=some (.aN H.next 0 (n+1) 9 none,(H.set l .dead).push (.row false 9 (els++[cs]))):=by
 have U:(n+1)*136<=140737488355328:=Z;have aa:n+1<=9223372036854775807:=Z;simp[fQ,My,CK,WG,L4,sM,pV,aZ,az,I.cells,aU,U,aa];rw[List.take_of_length_le Z]
theorem Vr(l:Nat)(cs:List I)(h:cs.length=9)(bt:cs.all I.one=true):dK P l 44 1 [(0,.agg cs)]=some (.aN l 0 1 9 (some 1),.row false 9 [cs]):=by
 simp[dK,My,CK,L4,I.cells,qx,h,bt,iF,jO,Bv]
def ur(pq:Nat)(H:J)(l:List cE)(v:I):Prop:=(v= .ap/\l=[])\/ ∃L els,v= .aN L 0 l.length 9 none/\H.get L=some (.row false 9 els)/\pq<=L/\els.length=l.length/\gE H (λk=>pq<=k/\k≠L) l els
theorem ur.mut{pq r:Nat}{H H':J}{l:List cE}{v:I}(h:ur pq H l v)(m:cC r H H')(a8:r<pq):ur pq H' l v:=by
 rcases h with h|⟨L,els,aI,bc,dq,eZ,hE⟩
 ·exact .inl h
 ·exact .inr ⟨L,els,aI,m.get bc Z,dq,eZ,gE.bo (fG.mut m Z λ_ h=>h) _ _ hE⟩
theorem ur.Je{pq:Nat}{H:J}{l:List cE}{v:I}(h:ur pq H l v):ez H (bI pq) l v:=by
 rcases h with⟨rfl,rfl⟩|⟨L,els,aI,bc,dq,eZ,hE⟩
 ·exact ez.nil _ _
 ·exact .inr (.inl ⟨L,0,none,false,els,aI,dq,bc,by rw[List.drop_zero];exact gE.bo (fG.q4 λ_ h=>h.1) _ _ hE⟩)
theorem ur.app{pq m:Nat}{H:J}{l:List cE}{v:I}(h:ur pq H l v){e:cE}{cs:List I}(he:h9 H (bI m) e (.agg cs))(hm:pq<=m)(bA: ∀L n c,v= .aN L 0 n 9 c->L<m)(aU:pq<=H.next)(az:l.length<=1000000000):
  ∃dr H',fQ P (H.push (.row false 9 [cs])) [44,44] v (.aN H.next 0 1 9 (some 1))=some (dr,H')/\ur pq H' (l++[e]) dr/\dC (pq<= ·) H H'/\H.next+1<=H'.next:=by
 have aZ:=J.ca H (.row false 9 [cs]);rcases h with⟨rfl,rfl⟩|⟨L,els,rfl,bc,dq,eZ,hE⟩
 ·refine⟨_,_,aeP aZ,.inr ⟨_,[cs],rfl,J.ca _ _,by simp only[J.b2];omega,rfl,?_⟩,(((aR.push _ _).bX _).mut _),by simp only[J.b2];omega⟩;rw[List.nil_append,gE,gE];refine⟨h9.bo ⟨λk ro els ah g=>⟨⟨by unfold bI at ah;omega,?_⟩,((aR.push _ _).bX _).get g⟩,λk ro els ah g=>⟨⟨by unfold bI at ah;omega,?_⟩,((aR.push _ _).bX _).get g⟩⟩ e _ he,trivial⟩
  all_goals have:=J.aX g;simp only[J.b2];omega
 ·have aqt:=bA L _ _ rfl;have apk:=J.aX bc;have EZ:(H.push (.row false 9 [cs])).get L=some (.row false 9 els):=(aR.push _ _).get bc;have iW: ∀k b,H.get k=some b->k≠L->(((H.push (.row false 9 [cs])).set L .dead).push (.row false 9 (els++[cs]))).get k=some b:=λk b g ah=>by
   have:=J.aX g;rw[J.gD (by simp only[J.e9,J.b2];omega),J.get_set_other Z,J.gD Z];exact g
  refine⟨_,_,afL aZ EZ eZ az,.inr ⟨_,els++[cs],by rw[List.length_append];rfl,J.ca _ _,by simp only[J.e9,J.b2];omega,by simp[eZ],?_⟩,?_,by simp only[J.e9,J.b2];omega⟩
  ·refine gE.append _ _ _ _ (gE.bo ⟨λk ro es ah g=>⟨⟨ah.1,?_⟩,iW _ _ g ah.2⟩,λk ro es ah g=>⟨⟨ah.1,?_⟩,iW _ _ g ah.2⟩⟩ _ _ hE) eZ (h9.bo ⟨λk ro es ah g=>⟨⟨by unfold bI at ah;omega,?_⟩,iW _ _ g (by unfold bI at ah;omega)⟩,λk ro es ah g=>⟨⟨by unfold bI at ah;omega,?_⟩,iW _ _ g (by unfold bI at ah;omega)⟩⟩ e _ he)
   all_goals have:=J.aX g;simp only[J.e9,J.b2];omega
  ·exact(((aR.push _ _).mut _).db (.inl dq) _).bX _
def D0(n:Nat):Prop:= ∀{H:J} {r:Nat} {T:List Tok} {ak:I} {s:aA},T.length<=20000000->c_ H r T ak s-> ∀(e:cE) (s':aA),xF T n s=some (e,s')->W (aq P ao 106 [.ptr r 0 0] H) (gJ H r T ak e s')
def GF(n:Nat):Prop:= ∀{H:J} {r:Nat} {T:List Tok} {ak:I} {s:aA},T.length<=20000000->c_ H r T ak s-> ∀(l:List cE) (s':aA),oN T n s=some (l,s')->W (aq P ao 74 [.ptr r 0 0] H) λv H'=>cC r H H'/\c_ H' r T ak s'/\ez H' (bI H.next) l v
def Ko(n:Nat):Prop:= ∀{H:J} {r:Nat} {T:List Tok} {ak:I} {s:aA},T.length<=20000000->c_ H r T ak s-> ∀(e:cE) (s':aA),wR T n s=some (e,s')->W (aq P ao 141 [.ptr r 0 0] H) (gJ H r T ak e s')
def Kq(n:Nat):Prop:= ∀{H:J} {r:Nat} {T:List Tok} {ak:I} {s:aA},T.length<=20000000->c_ H r T ak s-> ∀(e:cE) (s':aA),wW T n s=some (e,s')->W (aq P ao 142 [.ptr r 0 0] H) (gJ H r T ak e s')
theorem Qe{N M:Nat}(aT: ∀k,k<N->D0 k){H0:J}{r:Nat}{T:List Tok}{ak:I}{s0:aA}(aH:T.length<=20000000)(bs:c_ H0 r T ak s0):
  ∀(n m:Nat),n<=N->n<m-> ∀(H:J) (s:aA) (l:List cE) (v:I),cC r H0 H->c7 H r ak s->l.length+n<=1000000000->ur H0.next H l v-> ∀(l':List cE) (s':aA),pM T n l s=some (l',s')->
   W (yV (aq P ao) M m (.ptr r 0 0) (.str [125]) (.func (.func 106) [.ptr r 0 0] []) v H) λv H'=>cC r H0 H'/\c_ H' r T ak s'/\ez H' (bI H0.next) l' v
 |0,m,dU,hm,H,s,l,v,bP,cp,hlen,ax,l',s',h=>by simp[pM] at h
 |n+1,0,dU,hm,H,s,l,v,bP,cp,hlen,ax,l',s',h=>Z
 |n+1,m+1,dU,hm,H,s,l,v,bP,cp,hlen,ax,l',s',h=>by
  have az:=bs.rd.lt;have hle:=bP.1;have ag:=bs.mut bP cp;simp only[pM] at h;simp only[yV];rw[DU];refine a6 (Bf cp) ?_;rintro _ H1 ⟨rfl,rfl⟩;refine⟨bN _,?_⟩;by_cases al:s.aC=0
  ·have e1:(s.aC==0)=true:=by simp[al]
   simp-implicitDefEqProofs(disch:=try exact af) only[DU,vS,reduceAdd,reduceLeDiff,reduceIte,aw,al,bne_self_eq_false,Bool.not_false];refine gP (BC cp ag.cf 4 [125]) ?_;rintro _ bm ⟨rfl,aJ⟩;refine⟨aJ.1,?_⟩;have ck:=ax.mut (aJ.mut (· =r)) az;cases be:b7 T s 4 [125] with
   |true=>
    simp only[e1,be,Bool.not_true,Bool.and_false,bj,bF,dw] at h;obtain⟨rfl,rfl⟩:=h;simp-implicitDefEqProofs(disch:=try exact af) only[yU,vS,reduceAdd,reduceLeDiff,reduceIte,aw,Bool.not_true,Bool.not_false];exact a_.2 ⟨bP.trans (aJ.mut _),ag.aK aJ,ck.Je⟩
   |false=>
    simp only[e1,be,Bool.not_false,Bool.and_self,bC,eW] at h;obtain⟨⟨aI,s1⟩,U,aa⟩:=h;simp-implicitDefEqProofs(disch:=try exact af) only[vS,reduceAdd,reduceLeDiff,reduceIte,aw,sx,List.append_nil,Bool.not_true,Bool.not_false];refine a6 (aT n Z aH (ag.aK aJ) aI s1 U) ?_;rintro w cT ⟨m3,e2,he⟩;refine⟨m3.1,?_⟩;obtain⟨cs,rfl,bM,cR⟩:=he.cells;have eO:=ck.mut m3 az;have jC:=m3.1;have n2:=aJ.1;obtain⟨dr,H',bV,ia,fK,hz⟩:=eO.app he Z (λL k c bA=>by
     rcases ck with⟨cD,_⟩|⟨L',els,cD,cu,_⟩
     ·rw[cD] at bA;cases bA
     ·rw[cD] at bA;cases bA;exact J.aX cu) Z Z
    have aM:=λl=>Vr l cs bM cR
    simp-implicitDefEqProofs(disch:=try exact af) only[vS,reduceAdd,reduceLeDiff,reduceIte,aw,aM,bV,kx];have Da:cC r H0 H':=⟨by have:=bP.1;omega,λk ah a8=>by
     rw[fK.2 k Z Z];exact((bP.trans (aJ.mut _)).trans m3).2 k ah a8⟩
    have iU:c7 H' r ak s1:=fK.get e2.rd Z;exact Qe aT aH bs n m Z Z H' s1 (l++[aI]) dr Da iU (by simp only[List.length_append,List.length_cons,List.length_nil];omega) ia l' s' aa
  ·have e1:(s.aC==0)=false:=by simpa using al
   have jr:(s.aC != 0)=true:=by simpa using al
   simp only[e1,Bool.false_and,bj,bF,dw] at h;obtain⟨rfl,rfl⟩:=h;simp-implicitDefEqProofs(disch:=try exact af) only[yU,vS,reduceAdd,reduceLeDiff,reduceIte,aw,jr,Bool.not_true];exact a_.2 ⟨bP,ag,ax.Je⟩
theorem acO{n:Nat}(aT: ∀k,k<n->D0 k)(aU:n<=1000000000){H:J}{r:Nat}{T:List Tok}{ak:I}{s:aA}(aH:T.length<=20000000)(ag:c_ H r T ak s){l:List cE}{s':aA}(h:pM T n [] s=some (l,s')):
  W (aq P ao 105 [.ptr r 0 0,.str [125],.func (.func 106) [.ptr r 0 0] []] H) λv H'=>cC r H H'/\c_ H' r T ak s'/\ez H' (bI H.next) l v:=by
 refine cP (λ_=>ahL (n+1)) ?_;rw[vS];exact Qe aT aH ag n (n+1) (bN _) Z H s [] .ap (dC.refl _ _) ag.rd (by simpa using aU) (.inl ⟨rfl,rfl⟩) l s' h
theorem abi{n:Nat}(aU:n<=1000000000)(aT: ∀k,k<n->D0 k):GF (n+1):=by
 intro H r T ak s aH ag l s' h;refine cP (λ_=>alF 0) ?_;have az:=ag.rd.lt;have de:=ag.cf.one;rw[ys];refine a6 (BC ag.rd ag.cf 4 [123]) ?_;rintro _ H1 ⟨rfl,aV⟩;refine⟨aV.1,?_⟩;have du:=ag.aK aV;simp only[oN] at h;have a8:=du.rd;unfold c7 at a8;cases be:b7 T s 4 [123] with
 |false=>
  simp only[be,bj,bF,dw] at h;obtain⟨rfl,rfl⟩:=h;simp-implicitDefEqProofs(disch:=try exact af) only[ys,reduceAdd,reduceLeDiff,reduceIte,aw,Bool.not_false];refine a6 (Bp du 2) ?_;rintro _ bm ⟨rfl,m2,cJ⟩;refine⟨m2.1,?_⟩;exact a_.2 ⟨(aV.mut _).trans m2,cJ,ez.nil _ _⟩
 |true=>
  simp only[be,bC] at h;by_cases aB:50<=s.bR
  ·rw[if_pos aB] at h;simp only[bF,dw] at h;obtain⟨rfl,rfl⟩:=h;simp-implicitDefEqProofs(disch:=try exact af) only[ys,reduceAdd,reduceLeDiff,reduceIte,aw,Bool.not_true,a8,aB,decide_true];refine a6 (Bp du 4) ?_;rintro _ bm ⟨rfl,m2,cJ⟩;refine⟨m2.1,?_⟩;exact a_.2 ⟨(aV.mut _).trans m2,cJ,ez.nil _ _⟩
  ·rw[if_neg aB] at h;simp only[eW] at h;obtain⟨⟨eG,s1⟩,U,aa⟩:=h;simp only[bF,dw] at aa;obtain⟨rfl,rfl⟩:=aa;obtain⟨m2,mW⟩:=h5 du.rd {s with at_:=hP (s.at_+1),bR:=hP (s.bR+1)};have cJ:=du.mut m2 mW;have aqY:=du.rd.lt;simp-implicitDefEqProofs(disch:=try exact af) only[ys,reduceAdd,reduceLeDiff,reduceIte,aw,Bool.not_true,a8,aB,decide_false,de];refine a6 (acO aT aU aH cJ U) ?_;rintro v cT ⟨m3,e2,bA⟩;refine⟨m3.1,?_⟩;have mZ:=e2.rd;have xR:=mZ;unfold c7 at xR;obtain⟨m4,an5⟩:=h5 mZ (ga s1);have fa:=e2.mut m4 an5;simp-implicitDefEqProofs(disch:=try exact af) only[ys,reduceAdd,reduceLeDiff,reduceIte,aw,xR,de,mZ.lt]
   refine a6 (tz fa [125]) ?_;rintro _ dp ⟨rfl,m5,fg⟩;have fB:=aV.1;refine⟨m5.1,?_⟩;exact a_.2 ⟨((((aV.mut _).trans m2).trans m3).trans m4).trans m5,fg,bA.bo (fG.mut (m4.trans m5) (by unfold bI;simp only[J.e9];omega) λk ah=>by unfold bI at*;simp only[J.e9] at ah;omega)⟩
end
section
def eb(H:J)(ok:Nat->Prop)(H':J)(ok':Nat->Prop):Prop:= ∀l b,ok l->H.get l=some b->ok' l/\H'.get l=some b
theorem eb.s{H H':J}{ok ok':Nat->Prop}(h:eb H ok H' ok'):fG H ok H' ok':=⟨λl _ _ a b=>h l _ a b,λl _ _ a b=>h l _ a b⟩
theorem eb.le{H:J}{ok ok':Nat->Prop}(h: ∀l,ok l->ok' l):eb H ok H ok':=λl _ a b=>⟨h l a,b⟩
theorem eb.mut{H H':J}{ok:Nat->Prop}{S:Nat->Prop}(m:dC S H H')(h: ∀l,ok l-> ¬S l):eb H ok H' ok:=λl _ a b=>⟨a,m.get b (h l a)⟩
theorem eb.aK{H H':J}{ok:Nat->Prop}(m:aR H H'):eb H ok H' ok:=λ_ _ a b=>⟨a,m.get b⟩
theorem eb.trans{H1 bm cT:J}{a b c:Nat->Prop}(h:eb H1 a bm b)(k:eb bm b cT c):eb H1 a cT c:=λl x y z=>k l x (h l x y z).1 (h l x y z).2
structure tl(α:Type) where
 esz:Nat
 V:J->(Nat->Prop)->α->List I->Prop
 len: ∀{H ok a cs},V H ok a cs->cs.length=esz/\cs.all I.one=true
 bo: ∀{H ok H' ok'} {a:α} {cs},eb H ok H' ok'->V H ok a cs->V H' ok' a cs
section
variable {α:Type}{K:tl α}{H H':J}{ok ok':Nat->Prop}
def fJ(K:tl α)(ok:Nat->Prop)(H:J)(l:List α)(v:I):Prop:=(v= .ap/\l=[])\/ ∃L els,v= .aN L 0 l.length K.esz none/\ok L/\H.get L=some (.row false K.esz els)/\els.length=l.length/\ ∀(i:Nat) (a:α),l[i]? =some a-> ∃cs,els[i]? =some cs/\K.V H (λk=>ok k/\k≠L) a cs
def eJ(K:tl α)(H:J)(ok:Nat->Prop)(l:List α)(v:I):Prop:=(v= .ap/\l=[])\/(∃L i cap ro els,v= .aN L i l.length K.esz (Option.map (· +l.length) cap)/\ok L/\H.get L=some (.row ro K.esz els)/\ ∀(j:Nat) (a:α),l[j]? =some a-> ∃cs,els[i+j]? =some cs/\K.V H ok a cs)\/ ∃L i cap,v= .aN L i 0 K.esz cap/\l=[]
theorem fJ.one{l:List α}{v:I}(h:fJ K ok H l v):v.one=true:=by
 rcases h with⟨rfl,_⟩|⟨L,els,rfl,_⟩<;>rfl
theorem eJ.one{l:List α}{v:I}(h:eJ K H ok l v):v.one=true:=by
 rcases h with⟨rfl,_⟩|⟨L,i,cap,ro,els,rfl,_⟩|⟨L,i,cap,rfl,_⟩<;>rfl
theorem fJ.nil:fJ K ok H [] .ap:= .inl ⟨rfl,rfl⟩
theorem eJ.nil:eJ K H ok [] .ap:= .inl ⟨rfl,rfl⟩
theorem fJ.bo{l:List α}{v:I}(p:eb H ok H' ok')(h:fJ K ok H l v):fJ K ok' H' l v:=by
 rcases h with h|⟨L,els,aI,bc,dq,eZ,hE⟩
 ·exact .inl h
 ·refine .inr ⟨L,els,aI,(p _ _ bc dq).1,(p _ _ bc dq).2,eZ,λi a be=> ?_⟩;obtain⟨cs,cD,cu⟩:=hE i a be;exact⟨cs,cD,K.bo (λk b ah g=>⟨⟨(p _ _ ah.1 g).1,ah.2⟩,(p _ _ ah.1 g).2⟩) cu⟩
theorem eJ.bo{l:List α}{v:I}(p:eb H ok H' ok')(h:eJ K H ok l v):eJ K H' ok' l v:=by
 rcases h with h|⟨L,i,cap,ro,els,aI,bc,dq,hE⟩|h
 ·exact .inl h
 ·refine .inr (.inl ⟨L,i,cap,ro,els,aI,(p _ _ bc dq).1,(p _ _ bc dq).2,λj a bH=> ?_⟩);obtain⟨cs,cD,cu⟩:=hE j a bH;exact⟨cs,cD,K.bo p cu⟩
 ·exact .inr (.inr h)
theorem fJ.aN{l:List α}{v:I}(h:fJ K ok H l v):eJ K H ok l v:=by
 rcases h with h|⟨L,els,aI,bc,dq,eZ,hE⟩
 ·exact .inl h
 ·refine .inr (.inl ⟨L,0,none,false,els,aI,bc,dq,λj a bH=> ?_⟩);obtain⟨cs,cD,cu⟩:=hE j a bH;exact⟨cs,by rw[Nat.zero_add];exact cD,K.bo (eb.le λ_ h=>h.1) cu⟩
structure v7(t e esz:Nat):Prop where
 un:P.underlying t=some (.slice e)
 ts:fs P e=some esz
 p6: ∃b,rv P e=some b/\b<=200
 NP: ∃z,j2 P e=some z/\z.cells.length=esz/\z.cells.all I.one=true
 pos:0<esz/\esz<=100
theorem ahj{t e esz:Nat}(y:v7 t e esz){L:Nat}{cs:List I}{cap:Option Nat}{ro:Bool}(aZ:H.get L=some (.row ro esz [cs])):fQ P H [t,t] .ap (.aN L 0 1 esz cap)=some (.aN H.next 0 1 esz none,H.push (.row false esz [cs])):=by
 obtain⟨b,ax,ia⟩:=y.p6;obtain⟨z,cn,wl,_⟩:=y.NP;have U:b<=140737488355328:=Z;simp[fQ,y.un,y.ts,ax,cn,wl,y.pos.1,sM,pV,aZ,U]
theorem aj5{t e esz:Nat}(y:v7 t e esz){L l n:Nat}{cs:List I}{els:List (List I)}{cap:Option Nat}{ro:Bool}(aZ:H.get L=some (.row ro esz [cs]))(az:H.get l=some (.row false esz els))(aU:els.length=n)(ax:n<=1000000000):fQ P H [t,t] (.aN l 0 n esz none) (.aN L 0 1 esz cap)=some (.aN H.next 0 (n+1) esz none,(H.set l .dead).push (.row false esz (els++[cs]))):=by
 obtain⟨b,dQ,ia⟩:=y.p6;obtain⟨z,cn,wl,_⟩:=y.NP;have U:(n+1)*b<=140737488355328:=Nat.le_trans (Nat.mul_le_mul_left (n+1) ia) Z;have aa:n+1<=9223372036854775807:=Z;simp[fQ,y.un,y.ts,dQ,cn,wl,y.pos.1,sM,pV,aZ,az,aU,U,aa];rw[List.take_of_length_le Z]
theorem uc{t e esz:Nat}(y:v7 t e esz)(l:Nat){cs:List I}(h:cs.length=esz)(bt:cs.all I.one=true):dK P l t 1 [(0,.agg cs)]=some (.aN l 0 1 esz (some 1),.row false esz [cs]):=by
 obtain⟨z,cn,wl,lq⟩:=y.NP;have U:1*esz<=16777216:=by have:=y.pos.2;omega
 have aa:esz<=16777216:=by have:=y.pos.2;omega
 have aS:(I.agg cs).cells=cs:=rfl;simp[dK,y.un,y.ts,cn,wl,qx,h,bt,aa,aS];have aoJ: ∀x∈z.cells,x.one=true:=by simpa using lq
 rw[decide_eq_true aoJ];rfl
theorem fJ.app{t e:Nat}(y:v7 t e K.esz){l:List α}{v:I}(h:fJ K ok H l v){okE:Nat->Prop}{a:α}{cs:List I}(he:K.V H okE a cs)(pn: ∀k b,okE k->H.get k=some b->ok' k/\ ∀L,v= .aN L 0 l.length K.esz none->k≠L)(ah: ∀k b,ok k->H.get k=some b->ok' k)(aU:ok' (H.next+1))(az:l.length<=1000000000):
  ∃dr H',fQ P (H.push (.row false K.esz [cs])) [t,t] v (.aN H.next 0 1 K.esz (some 1))=some (dr,H')/\fJ K ok' H' (l++[a]) dr/\H.next+1<=H'.next/\(∀k,k<H.next->(∀L,v= .aN L 0 l.length K.esz none->k≠L)->H'.get k=H.get k):=by
 have aZ:=J.ca H (.row false K.esz [cs]);rcases h with⟨rfl,rfl⟩|⟨L,els,rfl,bc,dq,eZ,hE⟩
 ·refine⟨_,_,ahj y aZ,.inr ⟨_,[cs],rfl,by simpa only[J.b2] using aU,J.ca _ _,rfl,λi b be=> ?_⟩,by simp only[J.b2];omega,λk ah _=> ?_⟩
  ·rcases i with _|i
   ·cases be;refine⟨cs,rfl,K.bo (λk b ah g=> ?_) he⟩;have:=J.aX g;exact⟨⟨(pn k b ah g).1,by simp only[J.b2];omega⟩,((aR.push _ _).bX _).get g⟩
   ·simp at be
  ·rw[J.gD (by simp only[J.b2];omega),J.gD Z]
 ·have apk:=J.aX dq;have anG:=(aR.push H (.row false K.esz [cs])).get dq;have iW: ∀k b,H.get k=some b->k≠L->(((H.push (.row false K.esz [cs])).set L .dead).push (.row false K.esz (els++[cs]))).get k=some b:=λk b g ah=>by
   have:=J.aX g;rw[J.gD (by simp only[J.e9,J.b2];omega),J.get_set_other Z,J.gD Z];exact g
  refine⟨_,_,aj5 y aZ anG eZ az,.inr ⟨_,els++[cs],by rw[List.length_append];rfl,by simpa only[J.e9,J.b2] using aU,J.ca _ _,by simp[eZ],λi b be=> ?_⟩,by simp only[J.e9,J.b2];omega,λk ah dM=> ?_⟩
  ·by_cases yb:i<l.length
   ·rw[List.getElem?_append_left yb] at be;obtain⟨c,cD,cu⟩:=hE i b be;refine⟨c,by rw[List.getElem?_append_left Z];exact cD,K.bo (λk x e3 g=> ?_) cu⟩;have:=J.aX g;exact⟨⟨ah k x e3.1 g,by simp only[J.e9,J.b2];omega⟩,iW k x g e3.2⟩
   ·rw[List.getElem?_append_right Z] at be;have M6:i-l.length=0:=by
     rcases ag:i-l.length with _|z
     ·rfl
     ·rw[ag] at be;simp at be
    rw[M6] at be;cases be;refine⟨cs,by rw[List.getElem?_append_right Z,show i-els.length=0 by omega];rfl,K.bo (λk x ah g=> ?_) he⟩;have:=J.aX g;exact⟨⟨(pn k x ah g).1,by simp only[J.e9,J.b2];omega⟩,iW k x g ((pn k x ah g).2 L rfl)⟩
  ·rw[J.gD (by simp only[J.e9,J.b2];omega),J.get_set_other (by exact λe=>dM L rfl e.symm),J.gD Z]
end
end
section
def lf(c:Int):Bool:=(decide (97<=c)&&decide (c<=122))||(decide (65<=c)&&decide (c<=90))
def oo(c:Int):Bool:=decide (48<=c)&&decide (c<=57)
def hf(b:UInt8):Bool:=lf b.toNat
def gK(b:UInt8):Bool:=oo b.toNat
def sL:List bl:=[[114,101,99,111,114,100],[103,108,111,98,97,108],[102,117,110,99],[118,97,114],[108,101,116],[105,102],[101,108,115,101],[119,104,105,108,101],[114,101,116,117,114,110],[112,114,105,110,116],[110,117,108,108],[110,101,119],[108,101,110],[114,101,97,100],[116,114,117,101],[102,97,108,115,101],[105,110,116],[98,111,111,108]]
def lh(x:bl):List bl->Bool
 |[]=>false
 |y::dX=>y==x||lh x dX
def rV(x:bl):Bool:=lh x sL
def vL:bl->Bool
 |[]=>true
 |c::r=>(hf c||gK c)&&vL r
def iG(x:bl):Bool:=decide (1<=x.length)&&(decide (x.length<=8)&&(hf (x.headD 0)&&(!rV x&&vL x)))
def runN(d:Bool):bl->Nat
 |[]=>0
 |c::r=>bif gK c||(!d&&hf c) then runN d r+1 else 0
def kK:Int->bl->Option Int
 |n,[]=>some n
 |n,c::r=>if(9223372036854775807-((c.toNat:Int)-48))/10<n then none else kK (10*n+((c.toNat:Int)-48)) r
def oV:List bl:=[[60,61],[61,61],[33,61],[38,38],[124,124]]
def mn:bl:=[123,125,40,41,91,93,59,58,44,46,61,43,45,42,47,37,60,33]
def o0(c:UInt8):bl->Bool
 |[]=>false
 |y::dX=>c.toNat==y.toNat||o0 c dX
def lg(s:bl):bl:=bif decide (2<=s.length)&&lh (s.take 2) oV then s.take 2 else match s with
 |c::_=>bif o0 c mn then[c] else[]
 |[]=>[]
def py(c:UInt8):Bool:=c.toNat==32||(c.toNat==9||(c.toNat==10||c.toNat==13))
def eh:Bool->bl->Nat
 |_,[]=>0
 |true,c::r=>bif c.toNat==10 then eh false r+1 else eh true r+1
 |false,c::r=>bif py c then eh false r+1 else bif c==47&&r.head?==some 47 then eh true r+1 else 0
def j6(s:bl):Option (Int×bl×Int×Nat):=match s with
 |[]=>none
 |c::_=>
  bif hf c then(bif rV (s.take (runN false s)) then some (3,s.take (runN false s),0,runN false s) else bif iG (s.take (runN false s)) then some (1,s.take (runN false s),0,runN false s) else none)
  else bif gK c then
   (match kK 0 (s.take (runN true s)) with
   |none=>none
   |some v=>bif (decide (1<runN true s)&&c.toNat==48)||(decide (runN true s<s.length)&&hf ((s[runN true s]?).getD 0)) then none else some (2,[],v,runN true s))
  else bif lg s==[] then none else some (4,lg s,0,(lg s).length)
def jo:Nat->bl->Nat->Nat ⊕ List Tok
 |0,_,p=> .inl p
 |_+1,[],p=> .inr [⟨0,[],0,p⟩]
 |n+1,c::r,p=>match j6 (c::r) with
  |none=> .inl p
  |some (k,t,v,m)=>match jo n (((c::r).drop m).drop (eh false ((c::r).drop m))) (p+m+eh false ((c::r).drop m)) with
   | .inl e=> .inl e
   | .inr l=> .inr (⟨k,t,v,p⟩::l)
def Cx(s:bl):Nat ⊕ List Tok:=jo (s.length+1) (s.drop (eh false s)) (eh false s)
def hL(s:bl):List Tok×Int×Int:=if 6000<s.length then([],4,0) else match Cx s with
 | .inl e=>([],1,e)
 | .inr l=>(l,0,0)
end
section
structure ec where
 name:bl
 eV:bl
 fT:Int
 pos:Int
structure jY where
 name:bl
 fields:List ec
 pos:Int
structure Fn where
 name:bl
 params:List ec
 has:Bool
 fL:bl
 rd:Int
 body:List cE
 pos:Int
structure eA where
 el:List jY
 globals:List ec
 funcs:List Fn
def eA.none:eA:=⟨[],[],[]⟩
def hV(T:List Tok)(s:aA):ec×aA:=(⟨(gh T s).1.1,(gh T s).1.2.1,(gh T s).1.2.2,(ar T s.at_).pos⟩,(gh T s).2)
def wU(T:List Tok):Nat->List ec->aA->R (List ec)
 |0,_,_=>none
 |n+1,l,s=>bif s.aC==0&& !cd T s [125] then
  (bif (ar T s.at_).kind==1&&l.length==8 then some (l,cS T 4 s) else wU T n (l++[(hV T s).1]) (cr T [59] (hV T s).2))
  else some (l,s)
def yT(T:List Tok)(n:Nat)(s:aA):R jY:=(wU T n [] (cr T [123] (dk T s).2)).bind λp=>some (⟨(dk T s).1,p.1,(ar T s.at_).pos⟩,cr T [125] p.2)
def ze(T:List Tok)(s:aA):aA:=bif cd T (cr T [44] s) [41] then cS T 2 (cr T [44] s) else cr T [44] s
def qy(T:List Tok):Nat->List ec->aA->R (List ec)
 |0,_,_=>none
 |n+1,l,s=>bif s.aC==0&& !cd T s [41] then
  (bif (ar T s.at_).kind==1&&l.length==6 then some (l,cS T 4 s) else
   qy T n (l++[(hV T s).1]) (bif cd T (hV T s).2 [41] then(hV T s).2 else ze T (hV T s).2))
  else some (l,s)
def rZ(T:List Tok)(s:aA):(Bool×bl×Int)×aA:=bif cd T s [58] then((true,(fm T (aF s)).1),(fm T (aF s)).2) else((false,[],0),s)
def yJ(T:List Tok)(n:Nat)(s:aA):R Fn:=
 (qy T n [] (cr T [40] (dk T s).2)).bind λp=>
  (lE T n (rZ T (cr T [41] p.2)).2).bind λb=>
   some (⟨(dk T s).1,p.1,(rZ T (cr T [41] p.2)).1.1,(rZ T (cr T [41] p.2)).1.2.1,(rZ T (cr T [41] p.2)).1.2.2,b.1,(ar T s.at_).pos⟩,b.2)
def isRec(T:List Tok)(s:aA):Bool:=cd T s [114,101,99,111,114,100]
def ui(T:List Tok)(s:aA):Bool:=cd T s [103,108,111,98,97,108]
def isFun(T:List Tok)(s:aA):Bool:=cd T s [102,117,110,99]
def mo(T:List Tok)(N:Nat):Nat->eA->aA->R eA
 |0,_,_=>none
 |n+1,g,s=>bif s.aC==0&&(ar T s.at_).kind != 0 then
  (bif (isRec T s&&g.el.length==12)||((ui T s&&g.globals.length==8)||(isFun T s&&g.funcs.length==16)) then mo T N n g (cS T 4 s)
  else bif isRec T s then(yT T N (aF s)).bind λp=>mo T N n {g with el:=g.el++[p.1]} p.2
  else bif ui T s then mo T N n {g with globals:=g.globals++[(hV T (aF s)).1]} (cr T [59] (hV T (aF s)).2)
  else bif isFun T s then(yJ T N (aF s)).bind λp=>mo T N n {g with funcs:=g.funcs++[p.1]} p.2
  else mo T N n g (cS T 2 s))
  else some (g,s)
def xB(g:eA)(s:aA):eA×Int×Int:=if s.aC=0 then(g,0,0) else(.none,s.aC,s.cv)
end
section
def Eb(t:Tok):Prop:=(t.kind=1/\t.n=0/\iG t.text=true)\/(t.kind=3/\t.n=0/\rV t.text=true)\/(t.kind=2/\t.text=[]/\0<=t.n/\t.n<=9223372036854775807)\/(t.kind=4/\t.n=0/\(lh t.text oV=true\/ ∃c,t.text=[c]/\o0 c mn=true))
theorem ae1{c:UInt8}:gK c=true↔48<=c.toNat/\c.toNat<=57:=by
 simp only[gK,oo,Bool.and_eq_true,decide_eq_true_eq];omega
theorem Sc{d:Bool}: ∀s:bl,∀c∈s.take (runN d s),(gK c||(!d&&hf c))=true
 |[],_,h=>by simp[runN] at h
 |c::r,x,h=>by
  rw[runN] at h;cases aS:(gK c||(!d&&hf c)) with
  |false=>rw[aS] at h;simp at h
  |true=>
   rw[aS] at h;simp only[bC,List.take_succ_cons,List.mem_cons] at h;rcases h with rfl|h
   ·exact aS
   ·exact Sc r x h
theorem Q6: ∀(l:bl) (a v:Int),(∀c∈l,gK c=true)->0<=a->a<=9223372036854775807->kK a l=some v->0<=v/\v<=9223372036854775807
 |[],a,v,_,aY,U,h=>by simp only[kK,bF] at h;omega
 |c::r,a,v,bd,aY,U,h=>by
  rw[kK] at h;have aS:=ae1.1 (bd c (List.mem_cons_self));split at h
  ·cases h
  ·exact Q6 r _ v (λc aS=>bd c (List.mem_cons_of_mem _ aS)) Z Z h
theorem ahE{s:bl}{t:Tok}{m:Nat}(h:j6 s=some (t.kind,t.text,t.n,m)):Eb t:=by
 obtain⟨k,x,z,p⟩:=t;rcases s with _|⟨c,r⟩
 ·simp[j6] at h
 rw[j6] at h;cases az:hf c with
 |true=>
  rw[az,bC] at h;generalize (c::r).take (runN false (c::r))=y at*;cases hw:rV y with
  |true=>
   rw[hw,bC] at h;simp only[bF,dw] at h;obtain⟨rfl,rfl,rfl,-⟩:=h;exact .inr (.inl ⟨rfl,rfl,hw⟩)
  |false=>
   rw[hw,bj] at h;cases aU:iG y with
   |false=>rw[aU] at h;cases h
   |true=>
    rw[aU,bC] at h;simp only[bF,dw] at h;obtain⟨rfl,rfl,rfl,-⟩:=h;exact .inl ⟨rfl,rfl,aU⟩
 |false=>
  rw[az,bj] at h;cases bd:gK c with
  |true=>
   rw[bd,bC] at h;have bV:=Sc (d:=true) (c::r);cases hw:kK 0 ((c::r).take (runN true (c::r))) with
   |none=>rw[hw] at h;cases h
   |some v=>
    rw[hw] at h;simp only at h;have bA:=Q6 _ 0 v (λc aS=>by simpa using bV c aS) Z Z hw;cases ag:((decide (1<runN true (c::r))&&c.toNat==48)||(decide (runN true (c::r)<(c::r).length)&&hf (((c::r)[runN true (c::r)]?).getD 0))) with
    |true=>rw[ag] at h;cases h
    |false=>
     rw[ag] at h;simp only[bj,bF,dw] at h;obtain⟨rfl,rfl,rfl,-⟩:=h;exact .inr (.inr (.inl ⟨rfl,rfl,bA⟩))
  |false=>
   rw[bd,bj] at h;cases aM:lg (c::r)==[] with
   |true=>rw[aM] at h;cases h
   |false=>
    rw[aM,bj] at h;simp only[bF,dw] at h;obtain⟨rfl,rfl,rfl,-⟩:=h;refine .inr (.inr (.inr ⟨rfl,rfl,?_⟩));have uH:(lg (c::r)==[])=false:=aM;show lh (lg (c::r)) oV=true\/ ∃d,lg (c::r)=[d]/\o0 d mn=true;unfold lg at uH ⊢;cases aa:(decide (2<=(c::r).length)&&lh ((c::r).take 2) oV) with
    |true=>rw[bC];exact .inl (Bool.and_eq_true_iff.1 aa).2
    |false=>
     rw[aa] at uH;simp only[bj] at uH ⊢;cases ae:o0 c mn with
     |false=>rw[ae] at uH;cases uH
     |true=>exact .inr ⟨c,rfl,ae⟩
theorem Tf: ∀(n:Nat) (s:bl) (p:Nat) (l:List Tok),jo n s p= .inr l-> ∀t∈l,Eb t\/t.kind=0
 |0,_,_,_,h=>by cases h
 |n+1,[],p,l,h=>by cases h;intro t bz;simp only[List.mem_cons,List.not_mem_nil,or_false] at bz;subst bz;exact .inr rfl
 |n+1,c::r,p,l,h=>by
  rw[jo] at h;split at h
  ·cases h
  ·rename_i k t v m bt;split at h
   ·cases h
   ·rename_i l' az;cases h;intro u hu;rcases List.mem_cons.1 hu with rfl|hu
    ·exact .inl (ahE (t:=⟨k,t,v,p⟩) bt)
    ·exact Tf n _ _ _ az u hu
theorem aeK{s:bl}: ∀t∈(hL s).1,Eb t\/t.kind=0:=by
 unfold hL;split
 ·intro t bz;cases bz
 ·cases h:Cx s with
  |inl e=>intro t bz;cases bz
  |inr l=>exact Tf _ _ _ _ h
end
section
def wo(k:Int):Nat:=if k=24 then 1 else if k=23 then 2 else if 19<=k/\k<=22 then 3 else if k=14\/k=15 then 4 else if 16<=k/\k<=18 then 5 else if k=12\/k=13 then 6 else 7
def bp.br(e:bp):Nat:=wo e.kind
def zR(x:bl)(d:Int):Prop:=0<=d/\d<=3/\(iG x=true\/x=[105,110,116]\/x=[98,111,111,108])
inductive gl:Nat->Nat->bp->Prop
 |par {d m e}:gl d 0 e->e.br<m->m<=7->gl (d+1) m e
 |int {d m n p}:m<=7->0<=n->n<=9223372036854775807->gl d m (.mk {kind:=1,n:=n,pos:=p} [])
 |bool {d m n p}:m<=7->n=0\/n=1->gl d m (.mk {kind:=2,n:=n,pos:=p} [])
 |null {d m x z p}:m<=7->zR x z->gl d m (.mk {kind:=3,eV:=x,fT:=z,pos:=p} [])
 |var {d m x p}:m<=7->iG x=true->gl d m (.mk {kind:=4,name:=x,pos:=p} [])
 |field {d m x p e}:m<=7->iG x=true->gl d 7 e->gl d m (.mk {kind:=5,name:=x,pos:=p} [e])
 |item {d m p e i}:m<=7->gl (d+1) 7 e->gl d 0 i->gl (d+1) m (.mk {kind:=6,pos:=p} [e,i])
 |call {d m x p l}:m<=7->iG x=true->(∀e∈l,gl d 0 e)->gl (d+1) m (.mk {kind:=7,name:=x,pos:=p} l)
 |new {d m x p}:m<=7->iG x=true->gl d m (.mk {kind:=8,eV:=x,pos:=p} [])
 |make {d m x z p e}:m<=7->zR x z->gl d 0 e->gl (d+1) m (.mk {kind:=9,eV:=x,fT:=z,pos:=p} [e])
 |len {d m p e}:m<=7->gl d 0 e->gl (d+1) m (.mk {kind:=10,pos:=p} [e])
 |read {d m p}:m<=7->gl (d+1) m (.mk {kind:=11,pos:=p} [])
 |sign {d m k p e}:m<=6->k=12\/k=13->gl d 6 e->gl (d+1) m (.mk {kind:=k,pos:=p} [e])
 |bin {d m k p a b}:m<=wo k->14<=k->k<=24->gl d (wo k) a->gl d (wo k+1) b->gl d m (.mk {kind:=k,pos:=p} [a,b])
theorem akA(k:Int):1<=wo k/\wo k<=7:=by
 unfold wo;(repeat' split)<;>omega
theorem gl.more{d m:Nat}{e:bp}(h:gl d m e): ∀{ep:Nat},d<=ep->gl ep m e:=by
 induction h with
 |par _ aa ae aT=>intro ep bd;obtain⟨k,rfl⟩: ∃k,ep=k+1:=⟨ep-1,Z⟩;exact .par (aT Z) aa ae
 |int aY U aa=>intro ep _;exact .int aY U aa
 |bool aY U=>intro ep _;exact .bool aY U
 |null aY U=>intro ep _;exact .null aY U
 |var aY U=>intro ep _;exact .var aY U
 |field aY U _ aT=>intro ep bd;exact .field aY U (aT bd)
 |item aY _ _ ih1 ih2=>intro ep bd;obtain⟨k,rfl⟩: ∃k,ep=k+1:=⟨ep-1,Z⟩;exact .item aY (ih1 bd) (ih2 Z)
 |call aY U _ aT=>intro ep bd;obtain⟨k,rfl⟩: ∃k,ep=k+1:=⟨ep-1,Z⟩;exact .call aY U λe he=>aT e he Z
 |new aY U=>intro ep _;exact .new aY U
 |make aY U _ aT=>intro ep bd;obtain⟨k,rfl⟩: ∃k,ep=k+1:=⟨ep-1,Z⟩;exact .make aY U (aT Z)
 |len aY _ aT=>intro ep bd;obtain⟨k,rfl⟩: ∃k,ep=k+1:=⟨ep-1,Z⟩;exact .len aY (aT Z)
 |read aY=>intro ep bd;obtain⟨k,rfl⟩: ∃k,ep=k+1:=⟨ep-1,Z⟩;exact .read aY
 |sign aY U _ aT=>intro ep bd;obtain⟨k,rfl⟩: ∃k,ep=k+1:=⟨ep-1,Z⟩;exact .sign aY U (aT Z)
 |bin aY U aa _ _ ih1 ih2=>intro ep bd;exact .bin aY U aa (ih1 bd) (ih2 bd)
theorem gl.at{d m:Nat}{e:bp}(h:gl d 0 e)(hm:m<=e.br):gl d m e:=by
 have aP:=(akA e.kind).2;have q0:m<=7:=Nat.le_trans hm aP;cases h with
 |par _ h _=>omega
 |int aY U aa=>exact .int q0 U aa
 |bool aY U=>exact .bool q0 U
 |null aY U=>exact .null q0 U
 |var aY U=>exact .var q0 U
 |field aY U aa=>exact .field q0 U aa
 |item aY U aa=>exact .item q0 U aa
 |call aY U aa=>exact .call q0 U aa
 |new aY U=>exact .new q0 U
 |make aY U aa=>exact .make q0 U aa
 |len aY U=>exact .len q0 U
 |read aY=>exact .read q0
 |sign aY U aa=>exact .sign (by rcases U with rfl|rfl<;>exact hm) U aa
 |bin aY U aa ae am=>exact .bin hm U aa ae am
theorem gl.low{d m:Nat}{e:bp}(h:gl d m e){fr:Nat}(hm:fr<=m):gl d fr e:=by
 cases h with
 |par U aa ae=>
  by_cases aS:e.br<fr
  ·exact .par U aS Z
  ·exact(U.at Z).more (Nat.le_succ _)
 |int aY U aa=>exact .int Z U aa
 |bool aY U=>exact .bool Z U
 |null aY U=>exact .null Z U
 |var aY U=>exact .var Z U
 |field aY U aa=>exact .field Z U aa
 |item aY U aa=>exact .item Z U aa
 |call aY U aa=>exact .call Z U aa
 |new aY U=>exact .new Z U
 |make aY U aa=>exact .make Z U aa
 |len aY U=>exact .len Z U
 |read aY=>exact .read Z
 |sign aY U aa=>exact .sign Z U aa
 |bin aY U aa ae am=>exact .bin Z U aa ae am
theorem gl.up{d:Nat}{e:bp}(h:gl d 0 e){m:Nat}(hm:m<=7):gl (d+1) m e:=by
 by_cases aS:e.br<m
 ·exact .par h aS hm
 ·exact(h.at Z).more (Nat.le_succ _)
mutual
def l_:bp->Nat
 | .mk a kids=>40+a.name.length+a.eV.length+kV kids
def kV:List bp->Nat
 |[]=>0
 |e::r=>l_ e+kV r
end
theorem Vz: ∀(l:List bp) (e:bp),kV (l++[e])=kV l+l_ e
 |[],e=>by simp[kV]
 |x::l,e=>by rw[List.cons_append,kV,Vz l e,kV];omega
structure In(E:Int)(s:aA):Prop where
 a:0<=s.at_
 b:s.at_<=E
 c:0<=s.bR
 d:s.bR<=50
structure fp(E:Int)(s s':aA)(k:Int):Prop where
 f:s.aC=0
 rb:s'.aC=0
 o:s'.bR=s.bR
 a:s.at_+k<=s'.at_
 b:s'.at_<=E
structure Good(T:List Tok)(E:Int):Prop where
 n:E<=20000000
 lt: ∀a,(ar T a).kind≠0->a<E
 t: ∀t∈T,Eb t\/t.kind=0
section
variable {T:List Tok}{E:Int}{s s' s2:aA}
theorem fp.trans{k l:Int}(h:fp E s s' k)(bZ:fp E s' s2 l):fp E s s2 (k+l):=⟨h.f,bZ.rb,bZ.o.trans h.o,by have:=h.a;have:=bZ.a;omega,bZ.b⟩
theorem fp.less{k l:Int}(h:fp E s s' k)(az:l<=k):fp E s s' l:=⟨h.f,h.rb,h.o,by have:=h.a;omega,h.b⟩
theorem fp.in{k:Int}(be:In E s)(h:fp E s s' k)(ah:0<=k):In E s':=⟨by have:=h.a;have:=be.a;omega,h.b,by rw[h.o];exact be.c,by rw[h.o];exact be.d⟩
theorem fp.refl(be:In E s)(h:s.aC=0):fp E s s 0:=⟨h,h,rfl,Z,be.b⟩
theorem Vw{a:Int}(h:(ar T a).kind≠0):0<=a/\a<T.length/\ar T a∈T:=by
 unfold ar at h ⊢;split at h
 ·exact absurd rfl h
 ·rename_i aS;have:a.toNat<T.length:=Z;rw[if_neg aS,List.getElem?_eq_getElem this,Option.getD_some];exact⟨Z,Z,List.getElem_mem _⟩
theorem Vx(aH:Good T E){a:Int}(h:(ar T a).kind≠0):Eb (ar T a):=(aH.t _ (Vw h).2.2).resolve_right h
theorem afA(aH:Good T E){a:Int}(h:(ar T a).kind=1):iG (ar T a).text=true:=by
 rcases Vx aH (a:=a) Z with bZ|bZ|bZ|bZ
 ·exact bZ.2.2
 all_goals omega
theorem ahh(aH:Good T E){a:Int}(h:(ar T a).kind=2):0<=(ar T a).n/\(ar T a).n<=9223372036854775807:=by
 rcases Vx aH (a:=a) Z with bZ|bZ|bZ|bZ
 ·omega
 ·omega
 ·exact bZ.2.2
 ·omega
theorem go_ok(aH:Good T E)(be:In E s)(al:s.aC=0)(h:(ar T s.at_).kind≠0):aF s={s with at_:=s.at_+1}/\fp E s (aF s) 1:=by
 have kP:=aH.lt _ h;have aU:=aH.n;have Ig:=be.a;have e:aF s={s with at_:=s.at_+1}:=by
  unfold aF hP;rw[IntWalk.i64_in _ ⟨Z,Z⟩]
 refine⟨e,?_⟩;rw[e];exact⟨al,al,rfl,by simp,by simp only;omega⟩
theorem iZ{e:Int}(he:e≠0):(cS T e s).aC≠0:=by
 unfold cS;split
 ·exact he
 ·assumption
theorem iq{x:bl}(h:cd T s x=true):s.aC=0/\(ar T s.at_).kind=kw x/\(ar T s.at_).text=x:=sA h
theorem LP(x:bl):kw x≠0:=by
 unfold kw;split
 ·split<;>decide
 ·decide
theorem mJ(aH:Good T E)(be:In E s){x:bl}(h:cd T s x=true):fp E s (aF s) 1:=by
 obtain⟨U,aa,-⟩:=iq h;exact(go_ok aH be U (by rw[aa];exact LP x)).2
abbrev hI(E:Int)(s:aA):Prop:=s.aC=0->In E s
theorem fp.pd{k:Int}(be:hI E s)(h:fp E s s' k)(ah:0<=k):hI E s':=λ_=>h.in (be h.f) ah
theorem mc(aH:Good T E)(be:hI E s){x:bl}(h:(cr T x s).aC=0):cd T s x=true/\cr T x s=aF s/\fp E s (cr T x s) 1:=by
 unfold cr at h ⊢;cases ag:cd T s x with
 |true=>rw[bC];exact⟨rfl,rfl,mJ aH (be (iq ag).1) ag⟩
 |false=>rw[ag,bj] at h;exact absurd h (iZ cm)
theorem BI(aH:Good T E)(be:hI E s)(h:(dk T s).2.aC=0):iG (dk T s).1=true/\fp E s (dk T s).2 1:=by
 unfold dk at h ⊢;cases ag:(s.aC==0&&(ar T s.at_).kind==1) with
 |true=>
  simp only[Bool.and_eq_true,beq_iff_eq] at ag;rw[bC];exact⟨afA aH ag.2,(go_ok aH (be ag.1) ag.1 Z).2⟩
 |false=>rw[ag,bj] at h;exact absurd h (iZ cm)
theorem wO{x:bl}(h:iG x=true):x.length<=8:=by
 simp only[iG,Bool.and_eq_true,decide_eq_true_eq] at h;exact h.2.1
theorem GX{x:bl}{d:Int}(h:zR x d):x.length<=8:=by
 rcases h.2.2 with h|rfl|rfl
 ·exact wO h
 ·decide
 ·decide
theorem qv(aH:Good T E)(be:hI E s){x:bl}(h:(eT T x s).aC=0):cd T s x=true/\s.aC=0/\(eT T x s).bR=s.bR+1/\(eT T x s).at_=s.at_+1/\In E (eT T x s)/\s.bR+1<=50:=by
 unfold eT at h ⊢;cases ag:cd T s x&&decide (50<=s.bR) with
 |true=>rw[ag,bC] at h;exact absurd h (iZ cm)
 |false=>
  rw[ag,bj] at h;rw[bj];have bZ:(cr T x s).aC=0:=h;obtain⟨U,aa,ae⟩:=mc aH be bZ;obtain⟨cG,dh,-⟩:=iq U;have be:=be cG;obtain⟨g1,-⟩:=go_ok aH be cG (by rw[dh];exact LP x);rw[U,Bool.true_and] at ag;have bt:s.bR<50:=by have:=of_decide_eq_false ag;omega
  have aS:=be.c;have e:hP (s.bR+1)=s.bR+1:=IntWalk.i64_in _ ⟨Z,Z⟩;have Yb:=ae.a;have Yc:=ae.b;have Ig:=be.a;rw[aa,g1] at Yb Yc ⊢;simp only[iK,e] at Yb Yc ⊢;exact⟨U,cG,trivial,trivial,⟨by simp only;omega,by simp only;omega,by simp only;omega,by simp only;omega⟩,Z⟩
theorem KW(be:In E s):ga s={s with bR:=s.bR-1}:=by
 have:=be.c;have:=be.d;unfold ga hP;rw[IntWalk.i64_in _ ⟨Z,Z⟩]
theorem DD(aH:Good T E){k:Int}(ah:0<=k)(bt:s.bR+1=s'.bR)(bV:s.at_+1=s'.at_)(al:s.aC=0)(Aw:In E s')(hw:fp E s' s2 k){x:bl}(h:(gp T x s2).aC=0):fp E s (gp T x s2) (k+2):=by
 have bZ:(cr T x s2).aC=0:=h;have CX:=hw.in Aw ah;obtain⟨U,aa,ae⟩:=mc aH (λ_=>CX) bZ;have M7:=ae.in CX Z;unfold gp at h ⊢;rw[KW M7] at h ⊢;have bf:=hw.a;have a2:=ae.a;have cR:=hw.o;have dd:=ae.o;exact⟨al,h,by simp only;omega,by simp only;omega,ae.b⟩
theorem KG(aH:Good T E){x:bl}: ∀(n:Nat) (s:aA),hI E s->(takeN T x n s).aC=0->fp E s (takeN T x n s) n
 |0,s,be,h=> .refl (be h) h
 |n+1,s,be,h=>by
  have ax:(cr T x s).aC=0:=by
   by_cases ax:(cr T x s).aC=0
   ·exact ax
   ·exfalso;have key: ∀(n:Nat) (s:aA),s.aC≠0->(takeN T x n s).aC≠0:=by
     intro n
     induction n with
     |zero=>intro s aM;exact aM
     |succ n aT=>intro s aM;exact aT _ (by unfold cr;rw[hv aM,bj,iP aM];exact aM)
    exact key n _ ax h
  obtain⟨-,-,ae⟩:=mc aH be ax;have:=ae.trans (KG aH n _ (ae.pd be Z) h);exact this.less Z
theorem Tk(aH:Good T E): ∀(n:Nat) (d:Int) (s:aA) {q:Int×aA},In E s->0<=d->lL T n d s= .inl q->s.aC=0->d<=q.1/\q.1<=d+n/\fp E s q.2 (q.1-d)/\cd T q.2 [91]=false
 |0,d,s,q,be,bd,h,al=>by
  rw[lL] at h;cases ag:cd T s [91] with
  |true=>rw[ag,bC] at h;cases h
  |false=>
   rw[ag,bj] at h;cases h;exact⟨Int.le_refl _,by simp,(fp.refl be al).less (by simp),ag⟩
 |n+1,d,s,q,be,bd,h,al=>by
  rw[lL] at h;cases ag:cd T s [91] with
  |true=>
   rw[ag,bC] at h;have aZ:=mJ aH be ag;obtain⟨U,aa,ae,am⟩:=Tk aH n (d+1) _ (aZ.in be Z) Z h aZ.rb;exact⟨Z,Z,(aZ.trans ae).less Z,am⟩
  |false=>
   rw[ag,bj] at h;cases h;exact⟨Int.le_refl _,Z,(fp.refl be al).less (by simp),ag⟩
theorem aff: ∀(n:Nat) (d:Int) (s:aA),s.aC≠0->lL T n d s= .inl (d,s)
 |0,d,s,h=>by rw[lL,hv h];rfl
 |n+1,d,s,h=>by rw[lL,hv h];rfl
theorem Km{x:bl}: ∀(n:Nat) (s:aA),s.aC≠0->(takeN T x n s).aC≠0
 |0,s,aM=>aM
 |n+1,s,aM=>Km n _ (by unfold cr;rw[hv aM,bj,iP aM];exact aM)
theorem Ej(aH:Good T E)(be:hI E s)(h:(fm T s).2.aC=0):zR (fm T s).1.1 (fm T s).1.2/\fp E s (fm T s).2 1:=by
 have al:s.aC=0:=by
  by_cases al:s.aC=0
  ·exact al
  ·exfalso;unfold fm at h;rw[aff 3 0 s al] at h;simp only[km,hv al,Bool.or_self,bj,F5 al] at h;exact Km _ _ al h
 have be:=be al;unfold fm at h ⊢;cases bi:lL T 3 0 s with
 |inr s'=>
  exfalso;rw[bi] at h;have key: ∀(n:Nat) (d:Int) (s:aA) {s':aA},lL T n d s= .inr s'->s'.aC≠0:=by
   intro n
   induction n with
   |zero=>
    intro d s s' h;rw[lL] at h;cases ag:cd T s [91]<;>rw[ag] at h<;>cases h;exact iZ cm
   |succ n aT=>
    intro d s s' h;rw[lL] at h;cases ag:cd T s [91]<;>rw[ag] at h
    ·cases h
    ·exact aT _ _ h
  exact key _ _ _ bi h
 |inl q=>
  obtain⟨U,aa,ae,-⟩:=Tk aH 3 0 s be Z bi al;rw[bi] at h;obtain⟨d,s1⟩:=q;simp only at h U aa ae ⊢;have E7:=ae.in be Z;unfold km at h ⊢;cases ag:cd T s1 [105,110,116]||cd T s1 [98,111,111,108] with
  |true=>
   rw[ag,bC] at h;rw[bC];have aZ:fp E s1 (aF s1) 1/\((ar T s1.at_).text=[105,110,116]\/(ar T s1.at_).text=[98,111,111,108]):=by
    rcases Bool.or_eq_true_iff.1 ag with ag|ag
    ·exact⟨mJ aH E7 ag,.inl (iq ag).2.2⟩
    ·exact⟨mJ aH E7 ag,.inr (iq ag).2.2⟩
   have aU:=KG aH _ _ (aZ.1.pd (λ_=>E7) Z) h;exact⟨⟨U,by simpa using aa,.inr aZ.2⟩,((ae.trans aZ.1).trans aU).less Z⟩
  |false=>
   rw[ag,bj] at h;rw[bj];have ax:(dk T s1).2.aC=0:=by
    by_cases ax:(dk T s1).2.aC=0
    ·exact ax
    ·exact absurd h (Km _ _ ax)
   obtain⟨fB,n2⟩:=BI aH (λ_=>E7) ax;have aU:=KG aH _ _ (n2.pd (λ_=>E7) Z) h;exact⟨⟨U,by simpa using aa,.inl fB⟩,((ae.trans n2).trans aU).less Z⟩
end
end
end Go.Proofs.YtghmbpmaafnodaaGreatDoor
