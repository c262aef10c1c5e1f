/-
  Texts of one proof, laid together: U3 U4 U5 Qa Lx Sq Pa Pb.
-/
import Derived.Test.YtghmbpmaafnodaaGreatDoorMK
import Derived.Test.YtghmbpmaafnodaaGreatDoorME
import Derived.Test.YtghmbpmaafnodaaGreatDoorMH
set_option linter.unusedVariables false
set_option linter.unusedSimpArgs false
namespace Go.Proofs.YtghmbpmaafnodaaGreatDoor
open Go.f7
open Nat (reduceAdd reduceLeDiff)
section
theorem acd{H:J}{r:Nat}{T:List Tok}{aj:I}{s:aw}(af:c8 H r T aj s):W (au P ao 139 [.ptr r 0 0] H) (gE H r T aj (Ce T s).1 (Ce T s).2):=by
 refine cU (λ_=>ai9 0) ?_;have ax:=af.rd.lt;have aU:=aR.push H (.row false 9 [[.int .i64 0,.str [],.str [],.int .i64 0,.an,.an,.an,.int .i64 0,.int .i64 0]]);simp-implicitDefEqProofs(disch:=try exact ag) only[CB,reduceAdd,reduceLeDiff,reduceIte,az,ea];refine aY (PC (af.aK aU)) ?_;rintro _ bl ⟨rfl,m2,cK⟩;refine⟨m2.1,?_⟩;unfold Ce;generalize jz T s=q at cK ⊢;have g2:=m2.get (J.ca H (.row false 9 [[.int .i64 0,.str [],.str [],.int .i64 0,.an,.an,.an,.int .i64 0,.int .i64 0]])) Z;have fB:=J.aW g2;simp-implicitDefEqProofs(disch:=try exact ag) only[CB,reduceAdd,reduceLeDiff,reduceIte,az,ea];have bz:=aR.push bl (.row false 2 [[.str q.1.2.1,.int .i64 q.1.2.2]])
 refine aY (tw (cK.aK bz) [59]) ?_;rintro _ dc ⟨rfl,m5,ff⟩;refine⟨m5.1,?_⟩;have oP:=cK.rd.lt;have g5:=m5.get (bz.get g2) Z;have eN:=m5.get (J.ca bl (.row false 2 [[.str q.1.2.1,.int .i64 q.1.2.2]])) Z;have tr:=J.aW g5;simp-implicitDefEqProofs(disch:=try exact ag) only[CB,reduceAdd,reduceLeDiff,reduceIte,az,ea,g5,eN];exact a8.2 (gE.fin (a:={kind:=1,name:=q.1.1,eQ:=q.1.2.1,fS:=q.1.2.2}) af ((((aU.mut _).trans m2).trans (bz.mut _)).trans m5) ff.rd (dO.nil _ _) (eC.nil _ _) (eC.nil _ _) (bL _) (Nat.lt_succ_self _) _)
theorem dO.made{H H':J}{r n lo:Nat}{e:bh}{cs:List I}(he:ec H (bG n) e (.agg cs))(m:cB r H H')(a7:r<n)(kl:lo<=n)(U:lo<=H'.next):dO (H'.push (.row false 11 [cs])) (bG lo) [e] (.aM H'.next 0 1 11 (some 1)):=
 dO.qO (ro:=false) (J.ca _ _) U (he.mut (m.bV _) (by unfold bG;omega) λl ax=>by unfold bG at*;omega)
theorem acf{H:J}{r:Nat}{T:List Tok}{aj:I}{s:aw}(aH:T.length<=20000000)(af:c8 H r T aj s):W (au P ao 140 [.ptr r 0 0] H) (gE H r T aj (Cj T s).1 (Cj T s).2):=by
 refine cU (λ_=>ai_ 0) ?_;have ax:=af.rd.lt;have aU:=aR.push H (.row false 9 [[.int .i64 0,.str [],.str [],.int .i64 0,.an,.an,.an,.int .i64 0,.int .i64 0]]);simp-implicitDefEqProofs(disch:=try exact ag) only[xY,reduceAdd,reduceLeDiff,reduceIte,az,ea];refine aY (PC (af.aK aU)) ?_;rintro _ bl ⟨rfl,m2,cK⟩;refine⟨m2.1,?_⟩;unfold Cj;generalize jz T s=q at cK ⊢;have g2:=m2.get (J.ca H (.row false 9 [[.int .i64 0,.str [],.str [],.int .i64 0,.an,.an,.an,.int .i64 0,.int .i64 0]])) Z;have fB:=J.aW g2;simp-implicitDefEqProofs(disch:=try exact ag) only[xY,reduceAdd,reduceLeDiff,reduceIte,az,ea];have bz:=aR.push bl (.row false 2 [[.str q.1.2.1,.int .i64 q.1.2.2]])
 refine aY (tw (cK.aK bz) [61]) ?_;rintro _ dc ⟨rfl,m5,ff⟩;refine⟨m5.1,?_⟩;have oP:=cK.rd.lt;have g5:=m5.get (bz.get g2) Z;have eN:=m5.get (J.ca bl (.row false 2 [[.str q.1.2.1,.int .i64 q.1.2.2]])) Z;generalize (cY T [61] q.2).2=j9 at ff ⊢;simp-implicitDefEqProofs(disch:=try exact ag) only[xY,reduceAdd,reduceLeDiff,reduceIte,az,ea];refine aY (yE aH ff) ?_;rintro v fX ⟨m6,hC,he⟩;refine⟨m6.1,?_⟩;obtain⟨cs,rfl,fw,cZ⟩:=he.cells;have t1:List.take 11 cs=cs:=List.take_of_length_le Z;have g6:=m6.get g5 Z;have gC:=m6.get eN Z;generalize eP T j9=yw at hC he ⊢;simp-implicitDefEqProofs(disch:=try exact ag) only[xY,reduceAdd,reduceLeDiff,reduceIte,az,ea,fw,cZ,List.append_nil]
 have h7:=aR.push fX (.row false 11 [cs]);refine aY (tw (hC.aK h7) [59]) ?_;rintro _ gK ⟨rfl,m9,qo⟩;refine⟨m9.1,?_⟩;have Zp:=hC.rd.lt;have g9:=m9.get (h7.get g6) Z;have so:=m9.get (h7.get gC) Z;have tm:=m9.get (J.ca fX (.row false 11 [cs])) Z;have Z0:=J.aW g9;have aO: ∀l,dH P l 96 1 [(0,.agg cs)]=some (.aM l 0 1 11 (some 1),.row false 11 [cs]):=λl=>jK l cs fw cZ
 have Oc:=ff.rd.lt;have apU:=J.aW g5;simp-implicitDefEqProofs(disch:=try exact ag) only[xY,reduceAdd,reduceLeDiff,reduceIte,az,ea,g9,so,tm,t1,aO];exact a8.2 (gE.fin (a:={kind:=2,name:=q.1.1,eQ:=q.1.2.1,fS:=q.1.2.2}) af (((((((aU.mut _).trans m2).trans (bz.mut _)).trans m5).trans m6).trans ((h7.mut _).trans m9)).bV _) (qo.rd.aK (aR.push _ _)) (dO.made he ((h7.mut _).trans m9) Oc (lo:=H.next+1) Z Z) (eC.nil _ _) (eC.nil _ _) (bL _) (Nat.lt_succ_self _) _)
theorem abo{H:J}{r:Nat}{T:List Tok}{aj:I}{s:aw}(aH:T.length<=20000000)(af:c8 H r T aj s):W (au P ao 144 [.ptr r 0 0] H) (gE H r T aj (B1 T s).1 (B1 T s).2):=by
 refine cU (λ_=>ajd 0) ?_;have ax:=af.rd.lt;have aU:=aR.push H (.row false 9 [[.int .i64 0,.str [],.str [],.int .i64 0,.an,.an,.an,.int .i64 0,.int .i64 0]]);simp-implicitDefEqProofs(disch:=try exact ag) only[CD,reduceAdd,reduceLeDiff,reduceIte,az,ea];refine aY (yE aH (af.aK aU)) ?_;rintro v fX ⟨m6,hC,he⟩;refine⟨m6.1,?_⟩;unfold B1;obtain⟨cs,rfl,fw,cZ⟩:=he.cells;have t1:List.take 11 cs=cs:=List.take_of_length_le Z;have g6:=m6.get (J.ca H (.row false 9 [[.int .i64 0,.str [],.str [],.int .i64 0,.an,.an,.an,.int .i64 0,.int .i64 0]])) Z;generalize eP T s=yw at hC he ⊢;simp-implicitDefEqProofs(disch:=try exact ag) only[CD,reduceAdd,reduceLeDiff,reduceIte,az,ea,fw,cZ,List.append_nil]
 have h7:=aR.push fX (.row false 11 [cs]);refine aY (tw (hC.aK h7) [59]) ?_;rintro _ gK ⟨rfl,m9,qo⟩;refine⟨m9.1,?_⟩;have Zp:=hC.rd.lt;have apV:=J.aW g6;have g9:=m9.get (h7.get g6) Z;have tm:=m9.get (J.ca fX (.row false 11 [cs])) Z;have Z0:=J.aW g9;have aO: ∀l,dH P l 96 1 [(0,.agg cs)]=some (.aM l 0 1 11 (some 1),.row false 11 [cs]):=λl=>jK l cs fw cZ
 simp-implicitDefEqProofs(disch:=try exact ag) only[CD,reduceAdd,reduceLeDiff,reduceIte,az,ea,g9,tm,t1,aO];exact a8.2 (gE.fin (a:={kind:=8}) af ((((aU.mut _).trans m6).trans ((h7.mut _).trans m9)).bV _) (qo.rd.aK (aR.push _ _)) (dO.made he ((h7.mut _).trans m9) (by simp only[J.b6];omega) (lo:=H.next+1) (by simp only[J.b6];omega) Z) (eC.nil _ _) (eC.nil _ _) (bL _) (Nat.lt_succ_self _) _)
theorem Ss{H0 H:J}{r:Nat}{T:List Tok}{aj:I}{s0 s:aw}(bt:c8 H0 r T aj s0)(bM:cB r H0 H)(cp:c1 H r aj s){es:List bh}{ev:I}(ah:dO H (bG (H0.next+2)) es ev)(g2:H.get H0.next=some (.row false 9 [[.int .i64 0,.str [],.str [],.int .i64 0,.an,.an,.an,.int .i64 0,.int .i64 0]]))(g3:H.get (H0.next+1)=some (.row false 9 [dv.cells {kind:=7} ev .an .an])):
  W (y0 (au P ao) (.ptr r 0 0) (.ptr H0.next 0 0) (.ptr (H0.next+1) 0 0) H) (gE H0 r T aj (.mk {kind:=7} es [] []) (cY T [59] s).2):=by
 have ax:=bt.rd.lt;have Oq:=J.aW g3;have bs:=ah.gq;rw[y0];refine aY (tw (bt.mut bM cp) [59]) ?_;rintro _ H1 ⟨rfl,m1,dt⟩;refine⟨m1.1,?_⟩;have aa:=m1.get g2 Z;have ae:=m1.get g3 Z;have fB:=J.aW aa;simp only[dv.cells] at ae;simp-implicitDefEqProofs(disch:=try exact ag) only[xZ,reduceAdd,reduceLeDiff,reduceIte,az,ea,aa,ae,bs];exact a8.2 (gE.fin (a:={kind:=7}) bt (bM.trans m1) dt.rd (ah.bo (e_.mut m1 (ok':=bG (H0.next+1)) (by unfold bG;omega) λl ax=>by unfold bG at*;omega)) (eC.nil _ _) (eC.nil _ _) (bL _) (Nat.lt_succ_self _) _)
theorem acg{H:J}{r:Nat}{T:List Tok}{aj:I}{s:aw}(aH:T.length<=20000000)(af:c8 H r T aj s):W (au P ao 143 [.ptr r 0 0] H) (gE H r T aj (xz T s).1 (xz T s).2):=by
 refine cU (λ_=>ajc 0) ?_;have ax:=af.rd.lt;simp-implicitDefEqProofs(disch:=try exact ag) only[xZ,reduceAdd,reduceLeDiff,reduceIte,az,ea];have aJ:=(aR.push H (.row false 9 [[.int .i64 0,.str [],.str [],.int .i64 0,.an,.an,.an,.int .i64 0,.int .i64 0]])).bV (.row false 9 [dv.cells {kind:=7} .an .an .an]);refine aY (BH (af.rd.aK aJ) (af.b9.aK aJ) 4 [59]) ?_;rintro _ cu ⟨rfl,bK⟩;refine⟨bK.1,?_⟩;have mz:=bK.1;simp only[J.b6] at mz;have g2:cu.get H.next=some (.row false 9 [[.int .i64 0,.str [],.str [],.int .i64 0,.an,.an,.an,.int .i64 0,.int .i64 0]]):=bK.get (by simp-implicitDefEqProofs(disch:=try exact ag) only[dD])
 have g3:cu.get (H.next+1)=some (.row false 9 [dv.cells {kind:=7} .an .an .an]):=bK.get (J.ca _ _);have fa:=(af.aK aJ).aK bK;unfold xz;cases ay:b4 T s 4 [59] with
 |true=>
  simp-implicitDefEqProofs(disch:=try exact ag) only[xZ,reduceAdd,reduceLeDiff,reduceIte,az,ea];exact Ss af ((aJ.trans bK).mut _) fa.rd (dO.nil _ _) g2 g3
 |false=>
  simp-implicitDefEqProofs(disch:=try exact ag) only[xZ,reduceAdd,reduceLeDiff,reduceIte,az,ea];refine aY (yE aH fa) ?_;rintro v fX ⟨m6,hC,he⟩;refine⟨m6.1,?_⟩;obtain⟨cs,rfl,fw,cZ⟩:=he.cells;have Zo:=fa.rd.lt;have aa:=m6.get g2 Z;have ae:=m6.get g3 Z;have gL:=J.aW ae;generalize eP T s=yw at hC he ⊢;have aO: ∀l,dH P l 96 1 [(0,.agg cs)]=some (.aM l 0 1 11 (some 1),.row false 11 [cs]):=λl=>jK l cs fw cZ
  have hY:=ae;simp only[dv.cells] at hY;simp-implicitDefEqProofs(disch:=try exact ag) only[xZ,reduceAdd,reduceLeDiff,reduceIte,az,ea,aO,hY];have bM:=((aJ.trans bK).mut (· =r)).trans m6;have A3:=m6.1;refine Ss af (H:=(fX.push (.row false 11 [cs])).set (H.next+1) (.row false 9 [dv.cells {kind:=7} (.aM fX.next 0 1 11 (some 1)) .an .an])) (es:=[yw.1]) (ev:= .aM fX.next 0 1 11 (some 1)) ?_ ?_ ?_ ?_ ?_
  ·exact(bM.bV _).de (.inr Z) _
  ·have h:=hC.rd;unfold c1 at h ⊢;rw[J.get_set_other Z,J.gy Z];exact h
  ·exact(dO.made he (dE.refl _ _) Zo (lo:=H.next+2) Z Z).bo (e_.set _ (by unfold bG;omega) λ_ h=>h)
  ·simp-implicitDefEqProofs(disch:=try exact ag) only[dD,aa]
  ·exact J.get_set_same (by simp only[J.b6];omega)
end
section
theorem ec.below{H:J}{ok:Nat->Prop}{e:bh}{v:I}(h:ec H ok e v):ec H (λl=>ok l/\l<H.next) e v:=ec.bo (λ_ _ _ h g=>⟨⟨h,J.aW g⟩,g⟩) e v h
theorem xt.fin{ok:Nat->Prop}{H dU:J}{r:Nat}{T:List Tok}{aj:I}{s s':aw}{a:dv}{es:List bh}{ev:I}{x:Nat}(af:c8 H r T aj s)(m:cB r H dU)(bb:c1 dU r aj s')(U:dO dU (λl=>ok l/\l≠x) es ev)(ay:H.next<=x)(gW:dZ):
  xt ok H r T aj (.mk a es [] []) s' (.agg (a.cells ev .an .an)) (dU.set x gW):=by
 have ax:=af.rd.lt;have fp:=m.de (.inr ay) gW;refine⟨fp,af.mut fp ?_,tN.2 ⟨ev,.an,.an,rfl,U.bo (e_.set _ (by simp) λl h=>h.1),eC.nil _ _,eC.nil _ _⟩⟩;unfold c1 at bb ⊢;rw[J.get_set_other Z];exact bb
theorem agk{ok:Nat->Prop}{H0 H:J}{r:Nat}{T:List Tok}{aj:I}{s0 s:aw}(aH:T.length<=20000000)(bt:c8 H0 r T aj s0)(bM:cB r H0 H)(cp:c1 H r aj s){a:fm}{bR:List bh}{kv:I}(he:ec H0 ok (.mk a bR) (.agg (a.cells kv)))(a7: ¬ok r)(o4: ∀l,H0.next<=l->ok l)
  (g3:H.get H0.next=some (.row false 11 [a.cells kv])) (g4:H.get (H0.next+1)=some (.row false 9 [[.int .i64 0,.str [],.str [],.int .i64 0,.an,.an,.an,.int .i64 0,.int .i64 0]])):
  W (w4 (au P ao) (.ptr r 0 0) (.ptr H0.next 0 0) (.ptr (H0.next+1) 0 0) H) (xt ok H0 r T aj (bif a.kind==4 then .mk {kind:=3,name:=a.name} [(eP T (cY T [61] s).2).1] [] [] else .mk {kind:=4} [.mk a bR,(eP T (cY T [61] s).2).1] [] []) (cY T [59] (eP T (cY T [61] s).2).2).2):=by
 have ax:=bt.rd.lt;have arW:=J.aW g4;rw[w4];refine aY (tw (bt.mut bM cp) [61]) ?_;rintro _ H1 ⟨rfl,m1,dt⟩;refine⟨m1.1,?_⟩;have fw:=m1.1;generalize (cY T [61] s).2=s1 at dt ⊢;simp-implicitDefEqProofs(disch:=try exact ag) only[sW,reduceAdd,reduceLeDiff,reduceIte,az,ea];refine aY (yE aH dt) ?_;rintro v bl ⟨m2,cK,bw⟩;refine⟨m2.1,?_⟩;have n2:=m2.1;obtain⟨cs,rfl,bJ,cZ⟩:=bw.cells;generalize eP T s1=bc at cK bw ⊢;simp-implicitDefEqProofs(disch:=try exact ag) only[sW,reduceAdd,reduceLeDiff,reduceIte,az,ea,bJ,cZ,List.append_nil];have bz:=aR.push bl (.row false 11 [cs]);refine aY (tw (cK.aK bz) [59]) ?_;rintro _ cu ⟨rfl,m4,fa⟩
 refine⟨m4.1,?_⟩;have mz:=m4.1;simp only[J.b6] at mz;have oP:=cK.rd.lt;have dP:=m4.get (bz.get (m2.get (m1.get g3 Z) Z)) Z;have gd:=m4.get (bz.get (m2.get (m1.get g4 Z) Z)) Z;have jx:=m4.get (J.ca bl (.row false 11 [cs])) Z;have NQ:=J.aW gd;have m24:=(bz.mut (· =r)).trans m4;have sl:=(((bM.trans m1).trans m2).trans m24);have t1:List.take 11 cs=cs:=List.take_of_length_le Z;have dK: ∀l,bG H1.next l->ok l/\l≠H0.next+1:=λl h=>by
  unfold bG at h;exact⟨o4 l Z,Z⟩
 have Fu:=bw.mut (ok':=λl=>ok l/\l≠H0.next+1) m24 (by unfold bG;have:=dt.rd.lt;omega) dK;have bs:=dO.gq (lA.1 he).choose_spec.2;obtain⟨NO,wi,Nr⟩:=lA.1 he;have EB:=Nr.gq;have ie:NO=kv:=by
  have:=congrArg (λv=>match v with|I.agg cs=>cs[5]? |_=>none) wi;simpa [fm.cells] using this.symm
 rw[ie] at EB;have i6:ec cu (λl=>ok l/\l≠H0.next+1) (.mk a bR) (.agg (a.cells kv)):=he.below.mut sl (λh=>a7 h.1) λl h=>⟨h.1,Z⟩
 have A4:(a.cells kv).all I.one=true:=by simp only[fm.cells,List.all_cons,List.all_nil,iy,jJ,EB,Bool.and_self]
 cases ah:a.kind==4 with
 |true=>
  have aO: ∀l,dH P l 96 1 [(0,.agg cs)]=some (.aM l 0 1 11 (some 1),.row false 11 [cs]):=λl=>jK l cs bJ cZ
  simp only[fm.cells] at dP;simp-implicitDefEqProofs(disch:=try exact ag) only[sW,reduceAdd,reduceLeDiff,reduceIte,az,ea,dP,gd,jx,ah,t1,aO];exact a8.2 (xt.fin (a:={kind:=3,name:=a.name}) bt (sl.bV _) (fa.rd.aK (aR.push _ _)) (dO.qO (ro:=false) (J.ca _ _) ⟨o4 _ Z,Z⟩ (Fu.aK (aR.push _ _))) Z _)
 |false=>
  have aO: ∀l,dH P l 96 2 [(0,.agg (a.cells kv)),(1,.agg cs)]=some (.aM l 0 2 11 (some 2),.row false 11 [a.cells kv,cs]):=λl=>B9 l (a.cells kv) cs rfl A4 bJ cZ
  have FC:=dP;simp only[fm.cells] at FC aO;simp-implicitDefEqProofs(disch:=try exact ag) only[sW,reduceAdd,reduceLeDiff,reduceIte,az,ea,FC,gd,jx,ah,t1,aO];exact a8.2 (xt.fin (a:={kind:=4}) bt (sl.bV _) (fa.rd.aK (aR.push _ _)) (dO.B_ (ro:=false) (J.ca _ _) ⟨o4 _ Z,Z⟩ (i6.aK (aR.push _ _)) (Fu.aK (aR.push _ _))) Z _)
theorem ach{ok:Nat->Prop}{H:J}{r:Nat}{T:List Tok}{aj:I}{s:aw}(aH:T.length<=20000000)(af:c8 H r T aj s){e:bh}{v:I}(he:ec H ok e v)(a7: ¬ok r)(o4: ∀l,H.next<=l->ok l):W (au P ao 138 [.ptr r 0 0,v] H) (xt ok H r T aj (xC T e s).1 (xC T e s).2):=by
 refine cU (λ_=>ai8 0) ?_;have ax:=af.rd.lt;cases e with|mk a bR=>
 obtain⟨kv,rfl,ah⟩:=lA.1 he;have jq:=ah.gq;have A4:(a.cells kv).all I.one=true:=by simp only[fm.cells,List.all_cons,List.all_nil,iy,jJ,jq,Bool.and_self]
 have ic: ∀l,eW l (.agg (a.cells kv))=some (.ptr l 0 0,.row false 11 [a.cells kv]):=λl=>ij l _ A4
 simp only[fm.cells] at ic ⊢;have aJ:=(aR.push H (.row false 11 [a.cells kv])).bV (.row false 9 [[.int .i64 0,.str [],.str [],.int .i64 0,.an,.an,.an,.int .i64 0,.int .i64 0]]);have cK:=af.aK aJ;have fin: ∀(cQ:J),cB r H cQ->c1 cQ r aj (bif iO (.mk a bR) then cL T 2 s else s)->cQ.get H.next=some (.row false 11 [a.cells kv])->cQ.get (H.next+1)=some (.row false 9 [[.int .i64 0,.str [],.str [],.int .i64 0,.an,.an,.an,.int .i64 0,.int .i64 0]])->
  W (w4 (au P ao) (.ptr r 0 0) (.ptr H.next 0 0) (.ptr (H.next+1) 0 0) cQ) (xt ok H r T aj (xC T (.mk a bR) s).1 (xC T (.mk a bR) s).2):=λcQ m3 lp g3 g4=>agk aH af m3 lp he a7 o4 g3 g4
 have g3:((H.push (.row false 11 [a.cells kv])).push (.row false 9 [[.int .i64 0,.str [],.str [],.int .i64 0,.an,.an,.an,.int .i64 0,.int .i64 0]])).get H.next=some (.row false 11 [a.cells kv]):=by simp-implicitDefEqProofs(disch:=try exact ag) only[dD]
 have g4:=J.ca (H.push (.row false 11 [a.cells kv])) (.row false 9 [[.int .i64 0,.str [],.str [],.int .i64 0,.an,.an,.an,.int .i64 0,.int .i64 0]]);have aoL:=g3;simp only[fm.cells] at aoL;cases gd:(a.kind != 4) with
 |false=>
  have hex:iO (.mk a bR)=false:=by simp only[iO,bh.kind,gd,Bool.false_and]
  rw[hex] at fin;simp-implicitDefEqProofs(disch:=try exact ag) only[sW,reduceAdd,reduceLeDiff,reduceIte,az,ea,ic,gd];exact fin _ (aJ.mut _) cK.rd g3 g4
 |true=>
  cases jx:(a.kind != 5) with
  |false=>
   have hex:iO (.mk a bR)=false:=by simp only[iO,bh.kind,gd,jx,Bool.false_and,Bool.and_false]
   rw[hex] at fin;simp-implicitDefEqProofs(disch:=try exact ag) only[sW,reduceAdd,reduceLeDiff,reduceIte,az,ea,ic,gd,jx];exact fin _ (aJ.mut _) cK.rd g3 g4
  |true=>
   cases jT:(a.kind != 6) with
   |false=>
    have hex:iO (.mk a bR)=false:=by simp only[iO,bh.kind,gd,jx,jT,Bool.and_false]
    rw[hex] at fin;simp-implicitDefEqProofs(disch:=try exact ag) only[sW,reduceAdd,reduceLeDiff,reduceIte,az,ea,ic,gd,jx,jT];exact fin _ (aJ.mut _) cK.rd g3 g4
   |true=>
    have hex:iO (.mk a bR)=true:=by simp only[iO,bh.kind,gd,jx,jT,Bool.and_self]
    rw[hex] at fin;simp-implicitDefEqProofs(disch:=try exact ag) only[sW,reduceAdd,reduceLeDiff,reduceIte,az,ea,ic,gd,jx,jT];refine aY (Bm cK 2) ?_;rintro _ cQ ⟨rfl,m3,eY⟩;refine⟨m3.1,?_⟩;exact fin cQ ((aJ.mut _).trans m3) eY.rd (m3.get g3 Z) (m3.get g4 (by simp only[J.b6] at*;omega))
theorem Kt{H0 H:J}{r:Nat}{T:List Tok}{aj:I}{s0 s:aw}(bt:c8 H0 r T aj s0)(bM:cB r H0 H)(cp:c1 H r aj s){e:bh}{cs:List I}{b:Nat}(he:ec H (bG (H0.next+1)) e (.agg cs))(ay:H0.next<b)(g2:H.get H0.next=some (.row false 9 [[.int .i64 0,.str [],.str [],.int .i64 0,.an,.an,.an,.int .i64 0,.int .i64 0]]))(g3:H.get b=some (.row false 11 [cs])):
  W (yW (au P ao) (.ptr r 0 0) (.ptr H0.next 0 0) (.ptr b 0 0) H) (gE H0 r T aj (.mk {kind:=9} [e] [] []) (cY T [59] s).2):=by
 have ax:=bt.rd.lt;rw[yW];refine aY (tw (bt.mut bM cp) [59]) ?_;rintro _ H1 ⟨rfl,m1,dt⟩;refine⟨m1.1,?_⟩;obtain⟨uz,iZ,bJ,cZ⟩:=he.cells;cases iZ;have aa:=m1.get g2 Z;have ae:=m1.get g3 Z;have fB:=J.aW aa;have t1:List.take 11 cs=cs:=List.take_of_length_le Z;have aO: ∀l,dH P l 96 1 [(0,.agg cs)]=some (.aM l 0 1 11 (some 1),.row false 11 [cs]):=λl=>jK l cs bJ cZ
 simp-implicitDefEqProofs(disch:=try exact ag) only[r1,reduceAdd,reduceLeDiff,reduceIte,az,ea,aa,ae,t1,aO];exact a8.2 (gE.fin (a:={kind:=9}) bt ((bM.trans m1).bV _) (dt.rd.aK (aR.push _ _)) (dO.made he m1 Z (lo:=H0.next+1) Z Z) (eC.nil _ _) (eC.nil _ _) (bL _) (Nat.lt_succ_self _) _)
theorem PA{H:J}{r:Nat}{T:List Tok}{aj:I}{s:aw}(aH:T.length<=20000000)(af:c8 H r T aj s):W (au P ao 124 [.ptr r 0 0] H) (gE H r T aj (qP T s).1 (qP T s).2):=by
 refine cU (λ_=>ai0 0) ?_;have ax:=af.rd.lt;have aU:=aR.push H (.row false 9 [[.int .i64 0,.str [],.str [],.int .i64 0,.an,.an,.an,.int .i64 0,.int .i64 0]]);simp-implicitDefEqProofs(disch:=try exact ag) only[r1,reduceAdd,reduceLeDiff,reduceIte,az,ea];refine aY (yE aH (af.aK aU)) ?_;rintro v bl ⟨m2,cK,he⟩;refine⟨m2.1,?_⟩;have n2:=m2.1;simp only[J.b6] at n2;unfold qP;obtain⟨cs,rfl,bJ,cZ⟩:=he.cells;have t1:List.take 11 cs=cs:=List.take_of_length_le Z;have g2:=m2.get (J.ca H (.row false 9 [[.int .i64 0,.str [],.str [],.int .i64 0,.an,.an,.an,.int .i64 0,.int .i64 0]])) Z;generalize eP T s=bc at cK he ⊢
 simp-implicitDefEqProofs(disch:=try exact ag) only[r1,reduceAdd,reduceLeDiff,reduceIte,az,ea,bJ,cZ,List.append_nil];have bz:=aR.push bl (.row false 11 [cs]);refine aY (BH (cK.rd.aK bz) (cK.b9.aK bz) 4 [61]) ?_;rintro _ cu ⟨rfl,bK⟩;refine⟨bK.1,?_⟩;have mz:=bK.1;simp only[J.b6] at mz;have pn:=bz.trans bK;have g4:=pn.get g2;have hO:=J.aW g4;have eS:=bK.get (J.ca bl (.row false 11 [cs]));have i6:ec cu (bG (H.next+1)) bc.1 (.agg cs):=ec.bo (e_.aK pn λl ax=>by unfold bG at*;simp only[J.b6] at ax;omega) _ _ he;have bM:=((aU.mut (· =r)).trans m2).trans (pn.mut _);have fa:=cK.aK pn;cases ay:b4 T bc.2 4 [61] with
 |true=>
  simp-implicitDefEqProofs(disch:=try exact ag) only[r1,reduceAdd,reduceLeDiff,reduceIte,az,ea,eS,t1];refine aY (ach aH fa i6 (by unfold bG;omega) (λl ax=>by unfold bG;omega)) ?_;rintro w dc ⟨m5,ff,hw⟩;refine⟨m5.1,?_⟩;obtain⟨bU,rfl,d1,dk⟩:=hw.cells;have tt:List.take 9 bU=bU:=List.take_of_length_le Z;have g5:=m5.get g4 Z;have tr:=J.aW g5;simp-implicitDefEqProofs(disch:=try exact ag) only[r1,reduceAdd,reduceLeDiff,reduceIte,az,ea,g5,d1,dk,tt,List.append_nil];exact a8.2 (gE.ret af (bM.trans m5) ff.rd (bL _) hw (Nat.lt_succ_self _) _)
 |false=>
  simp-implicitDefEqProofs(disch:=try exact ag) only[r1,reduceAdd,reduceLeDiff,reduceIte,az,ea];refine aY (BH fa.rd fa.b9 4 [59]) ?_;rintro _ dc ⟨rfl,cO⟩;refine⟨cO.1,?_⟩;have gT:=cO.get eS;have g5:=cO.get g4;have ff:=fa.aK cO;have pg:=i6.aK cO;have NS:=bM.trans (cO.mut _);cases Ij:b4 T bc.2 4 [59] with
  |false=>
   simp-implicitDefEqProofs(disch:=try exact ag) only[r1,reduceAdd,reduceLeDiff,reduceIte,az,ea];simp only[Bool.false_and,bi];exact Kt af NS ff.rd pg Z g5 gT
  |true=>
   rcases fQ:bc.1 with⟨a,bR⟩;rw[fQ] at pg;obtain⟨kv,iZ,-⟩:=lA.1 pg;simp only[I.agg.injEq] at iZ;subst iZ;have Al:=gT;simp only[fm.cells] at Al;cases ah:(a.kind != 7) with
   |false=>
    simp-implicitDefEqProofs(disch:=try exact ag) only[r1,reduceAdd,reduceLeDiff,reduceIte,az,ea,Al,ah];simp only[bh.kind,ah,Bool.and_false,bi];exact Kt af NS ff.rd pg Z g5 gT
   |true=>
    simp-implicitDefEqProofs(disch:=try exact ag) only[r1,reduceAdd,reduceLeDiff,reduceIte,az,ea,Al,ah];simp only[bh.kind,ah,Bool.and_self,bx];refine aY (Bm ff 2) ?_;rintro _ fX ⟨rfl,m6,hC⟩;refine⟨m6.1,?_⟩;exact Kt af (NS.trans m6) hC.rd (pg.mut m6 (by unfold bG;omega) λ_ h=>h) Z (m6.get g5 Z) (m6.get gT Z)
end
section
theorem gJ.append{H:J}{ok:Nat->Prop}: ∀(es:List cy) (cs:List (List I)) (e:cy) (c:List I),gJ H ok es cs->cs.length=es.length->hX H ok e (.agg c)->gJ H ok (es++[e]) (cs++[c])
 |[],[],e,c,_,_,h=>by
  simp only[List.nil_append];rw[gJ,gJ];exact⟨h,trivial⟩
 |[],_::_,e,c,_,ax,_=>by simp at ax
 |_::_,[],e,c,h,_,_=>by rw[gJ] at h;exact h.elim
 |aI::es,bJ::cs,e,c,h,ax,he=>by
  rw[gJ] at h;simp only[List.cons_append];rw[gJ];exact⟨h.1,gJ.append es cs e c h.2 (by simpa using ax) he⟩
theorem ML:P.underlying 44=some (.slice 98):=ad
theorem W5:rA P 98=some 136:=ad
theorem Mh:jZ P 98=some (.agg [.int .i64 0,.str [],.str [],.int .i64 0,.an,.an,.an,.int .i64 0,.int .i64 0]):=ad
theorem afr{H:J}{L:Nat}{cs:List I}{cap:Option Nat}{ro:Bool}(aX:H.get L=some (.row ro 9 [cs])):fM P H [44,44] .an (.aM L 0 1 9 cap)=some (.aM H.next 0 1 9 none,H.push (.row false 9 [cs])):=by
 simp[fM,ML,CJ,W5,Mh,sL,p4,aX,I.cells]
theorem agB{H:J}{L l n:Nat}{cs:List I}{els:List (List I)}{cap:Option Nat}{ro:Bool}(aX:H.get L=some (.row ro 9 [cs]))(ax:H.get l=some (.row false 9 els))(aV:els.length=n)(ay:n<=1000000000):fM P H [44,44] (.aM l 0 n 9 none) (.aM L 0 1 9 cap)=some (.aM H.next 0 (n+1) 9 none,(H.set l .dead).push (.row false 9 (els++[cs]))):=by
 have U:(n+1)*136<=140737488355328:=Z;have aa:n+1<=9223372036854775807:=Z;simp[fM,ML,CJ,W5,Mh,sL,p4,aX,ax,I.cells,aV,U,aa];rw[List.take_of_length_le Z]
theorem VQ(l:Nat)(cs:List I)(h:cs.length=9)(bs:cs.all I.one=true):dH P l 44 1 [(0,.agg cs)]=some (.aM l 0 1 9 (some 1),.row false 9 [cs]):=by
 simp[dH,ML,CJ,Mh,I.cells,qG,h,bs,iy,jJ,Bt]
def ur(pz:Nat)(H:J)(l:List cy)(v:I):Prop:=(v= .an/\l=[])\/ ∃L els,v= .aM L 0 l.length 9 none/\H.get L=some (.row false 9 els)/\pz<=L/\els.length=l.length/\gJ H (λk=>pz<=k/\k≠L) l els
theorem ur.mut{pz r:Nat}{H H':J}{l:List cy}{v:I}(h:ur pz H l v)(m:cB r H H')(a7:r<pz):ur pz H' l v:=by
 rcases h with h|⟨L,els,aI,bc,dm,eS,gT⟩
 ·exact .inl h
 ·exact .inr ⟨L,els,aI,m.get bc Z,dm,eS,gJ.bo (fD.mut m Z λ_ h=>h) _ _ gT⟩
theorem ur.Jn{pz:Nat}{H:J}{l:List cy}{v:I}(h:ur pz H l v):eC H (bG pz) l v:=by
 rcases h with⟨rfl,rfl⟩|⟨L,els,aI,bc,dm,eS,gT⟩
 ·exact eC.nil _ _
 ·exact .inr (.inl ⟨L,0,none,false,els,aI,dm,bc,by rw[List.drop_zero];exact gJ.bo (fD.q9 λ_ h=>h.1) _ _ gT⟩)
theorem ur.app{pz m:Nat}{H:J}{l:List cy}{v:I}(h:ur pz H l v){e:cy}{cs:List I}(he:hX H (bG m) e (.agg cs))(hm:pz<=m)(bw: ∀L n c,v= .aM L 0 n 9 c->L<m)(aV:pz<=H.next)(ax:l.length<=1000000000):
  ∃dr H',fM P (H.push (.row false 9 [cs])) [44,44] v (.aM H.next 0 1 9 (some 1))=some (dr,H')/\ur pz H' (l++[e]) dr/\dE (pz<= ·) H H'/\H.next+1<=H'.next:=by
 have aX:=J.ca H (.row false 9 [cs]);rcases h with⟨rfl,rfl⟩|⟨L,els,rfl,bc,dm,eS,gT⟩
 ·refine⟨_,_,afr aX,.inr ⟨_,[cs],rfl,J.ca _ _,by simp only[J.b6];omega,rfl,?_⟩,(((aR.push _ _).bV _).mut _),by simp only[J.b6];omega⟩;rw[List.nil_append,gJ,gJ];refine⟨hX.bo ⟨λk ro els ah g=>⟨⟨by unfold bG at ah;omega,?_⟩,((aR.push _ _).bV _).get g⟩,λk ro els ah g=>⟨⟨by unfold bG at ah;omega,?_⟩,((aR.push _ _).bV _).get g⟩⟩ e _ he,trivial⟩
  all_goals have:=J.aW g;simp only[J.b6];omega
 ·have arx:=bw L _ _ rfl;have aqm:=J.aW bc;have E6:(H.push (.row false 9 [cs])).get L=some (.row false 9 els):=(aR.push _ _).get bc;have iS: ∀k b,H.get k=some b->k≠L->(((H.push (.row false 9 [cs])).set L .dead).push (.row false 9 (els++[cs]))).get k=some b:=λk b g ah=>by
   have:=J.aW g;rw[J.gy (by simp only[J.e9,J.b6];omega),J.get_set_other Z,J.gy Z];exact g
  refine⟨_,_,agB aX E6 eS ax,.inr ⟨_,els++[cs],by rw[List.length_append];rfl,J.ca _ _,by simp only[J.e9,J.b6];omega,by simp[eS],?_⟩,?_,by simp only[J.e9,J.b6];omega⟩
  ·refine gJ.append _ _ _ _ (gJ.bo ⟨λk ro es ah g=>⟨⟨ah.1,?_⟩,iS _ _ g ah.2⟩,λk ro es ah g=>⟨⟨ah.1,?_⟩,iS _ _ g ah.2⟩⟩ _ _ gT) eS (hX.bo ⟨λk ro es ah g=>⟨⟨by unfold bG at ah;omega,?_⟩,iS _ _ g (by unfold bG at ah;omega)⟩,λk ro es ah g=>⟨⟨by unfold bG at ah;omega,?_⟩,iS _ _ g (by unfold bG at ah;omega)⟩⟩ e _ he)
   all_goals have:=J.aW g;simp only[J.e9,J.b6];omega
  ·exact(((aR.push _ _).mut _).de (.inl dm) _).bV _
def D5(n:Nat):Prop:= ∀{H:J} {r:Nat} {T:List Tok} {aj:I} {s:aw},T.length<=20000000->c8 H r T aj s-> ∀(e:cy) (s':aw),xD T n s=some (e,s')->W (au P ao 106 [.ptr r 0 0] H) (gE H r T aj e s')
def GO(n:Nat):Prop:= ∀{H:J} {r:Nat} {T:List Tok} {aj:I} {s:aw},T.length<=20000000->c8 H r T aj s-> ∀(l:List cy) (s':aw),oU T n s=some (l,s')->W (au P ao 74 [.ptr r 0 0] H) λv H'=>cB r H H'/\c8 H' r T aj s'/\eC H' (bG H.next) l v
def Kz(n:Nat):Prop:= ∀{H:J} {r:Nat} {T:List Tok} {aj:I} {s:aw},T.length<=20000000->c8 H r T aj s-> ∀(e:cy) (s':aw),wR T n s=some (e,s')->W (au P ao 141 [.ptr r 0 0] H) (gE H r T aj e s')
def KB(n:Nat):Prop:= ∀{H:J} {r:Nat} {T:List Tok} {aj:I} {s:aw},T.length<=20000000->c8 H r T aj s-> ∀(e:cy) (s':aw),wV T n s=some (e,s')->W (au P ao 142 [.ptr r 0 0] H) (gE H r T aj e s')
theorem QC{N M:Nat}(aT: ∀k,k<N->D5 k){H0:J}{r:Nat}{T:List Tok}{aj:I}{s0:aw}(aH:T.length<=20000000)(bt:c8 H0 r T aj s0):
  ∀(n m:Nat),n<=N->n<m-> ∀(H:J) (s:aw) (l:List cy) (v:I),cB r H0 H->c1 H r aj s->l.length+n<=1000000000->ur H0.next H l v-> ∀(l':List cy) (s':aw),pV T n l s=some (l',s')->
   W (yT (au P ao) M m (.ptr r 0 0) (.str [125]) (.func (.func 106) [.ptr r 0 0] []) v H) λv H'=>cB r H0 H'/\c8 H' r T aj s'/\eC H' (bG H0.next) l' v
 |0,m,dX,hm,H,s,l,v,bM,cp,hlen,ay,l',s',h=>by simp[pV] at h
 |n+1,0,dX,hm,H,s,l,v,bM,cp,hlen,ay,l',s',h=>Z
 |n+1,m+1,dX,hm,H,s,l,v,bM,cp,hlen,ay,l',s',h=>by
  have ax:=bt.rd.lt;have hle:=bM.1;have af:=bt.mut bM cp;simp only[pV] at h;simp only[yT];rw[DZ];refine aY (Bb cp) ?_;rintro _ H1 ⟨rfl,rfl⟩;refine⟨bL _,?_⟩;by_cases ak:s.aA=0
  ·have eX:(s.aA==0)=true:=by simp[ak]
   simp-implicitDefEqProofs(disch:=try exact ag) only[DZ,vQ,reduceAdd,reduceLeDiff,reduceIte,az,ak,bne_self_eq_false,Bool.not_false];refine hh (BH cp af.b9 4 [125]) ?_;rintro _ bl ⟨rfl,aJ⟩;refine⟨aJ.1,?_⟩;have cn:=ay.mut (aJ.mut (· =r)) ax;cases be:b4 T s 4 [125] with
   |true=>
    simp only[eX,be,Bool.not_true,Bool.and_false,bi,bD,dz] at h;obtain⟨rfl,rfl⟩:=h;simp-implicitDefEqProofs(disch:=try exact ag) only[yS,vQ,reduceAdd,reduceLeDiff,reduceIte,az,Bool.not_true,Bool.not_false];exact a8.2 ⟨bM.trans (aJ.mut _),af.aK aJ,cn.Jn⟩
   |false=>
    simp only[eX,be,Bool.not_false,Bool.and_self,bx,eT] at h;obtain⟨⟨aI,s1⟩,U,aa⟩:=h;simp-implicitDefEqProofs(disch:=try exact ag) only[vQ,reduceAdd,reduceLeDiff,reduceIte,az,sw,List.append_nil,Bool.not_true,Bool.not_false];refine aY (aT n Z aH (af.aK aJ) aI s1 U) ?_;rintro w cQ ⟨m3,eY,he⟩;refine⟨m3.1,?_⟩;obtain⟨cs,rfl,bJ,cZ⟩:=he.cells;have eK:=cn.mut m3 ax;have jy:=m3.1;have n2:=aJ.1;obtain⟨dr,H',b1,hZ,fG,hk⟩:=eK.app he Z (λL k c bw=>by
     rcases cn with⟨cE,_⟩|⟨L',els,cE,cx,_⟩
     ·rw[cE] at bw;cases bw
     ·rw[cE] at bw;cases bw;exact J.aW cx) Z Z
    have aO:=λl=>VQ l cs bJ cZ
    simp-implicitDefEqProofs(disch:=try exact ag) only[vQ,reduceAdd,reduceLeDiff,reduceIte,az,aO,b1,ks];have Da:cB r H0 H':=⟨by have:=bM.1;omega,λk ah a7=>by
     rw[fG.2 k Z Z];exact((bM.trans (aJ.mut _)).trans m3).2 k ah a7⟩
    have iQ:c1 H' r aj s1:=fG.get eY.rd Z;exact QC aT aH bt n m Z Z H' s1 (l++[aI]) dr Da iQ (by simp only[List.length_append,List.length_cons,List.length_nil];omega) hZ l' s' aa
  ·have eX:(s.aA==0)=false:=by simpa using ak
   have jp:(s.aA != 0)=true:=by simpa using ak
   simp only[eX,Bool.false_and,bi,bD,dz] at h;obtain⟨rfl,rfl⟩:=h;simp-implicitDefEqProofs(disch:=try exact ag) only[yS,vQ,reduceAdd,reduceLeDiff,reduceIte,az,jp,Bool.not_true];exact a8.2 ⟨bM,af,ay.Jn⟩
theorem ads{n:Nat}(aT: ∀k,k<n->D5 k)(aV:n<=1000000000){H:J}{r:Nat}{T:List Tok}{aj:I}{s:aw}(aH:T.length<=20000000)(af:c8 H r T aj s){l:List cy}{s':aw}(h:pV T n [] s=some (l,s')):
  W (au P ao 105 [.ptr r 0 0,.str [125],.func (.func 106) [.ptr r 0 0] []] H) λv H'=>cB r H H'/\c8 H' r T aj s'/\eC H' (bG H.next) l v:=by
 refine cU (λ_=>aiM (n+1)) ?_;rw[vQ];exact QC aT aH af n (n+1) (bL _) Z H s [] .an (dE.refl _ _) af.rd (by simpa using aV) (.inl ⟨rfl,rfl⟩) l s' h
theorem abY{n:Nat}(aV:n<=1000000000)(aT: ∀k,k<n->D5 k):GO (n+1):=by
 intro H r T aj s aH af l s' h;refine cU (λ_=>amA 0) ?_;have ax:=af.rd.lt;have df:=af.b9.one;rw[yo];refine aY (BH af.rd af.b9 4 [123]) ?_;rintro _ H1 ⟨rfl,aU⟩;refine⟨aU.1,?_⟩;have dt:=af.aK aU;simp only[oU] at h;have a7:=dt.rd;unfold c1 at a7;cases be:b4 T s 4 [123] with
 |false=>
  simp only[be,bi,bD,dz] at h;obtain⟨rfl,rfl⟩:=h;simp-implicitDefEqProofs(disch:=try exact ag) only[yo,reduceAdd,reduceLeDiff,reduceIte,az,Bool.not_false];refine aY (Bm dt 2) ?_;rintro _ bl ⟨rfl,m2,cK⟩;refine⟨m2.1,?_⟩;exact a8.2 ⟨(aU.mut _).trans m2,cK,eC.nil _ _⟩
 |true=>
  simp only[be,bx] at h;by_cases aB:50<=s.bN
  ·rw[if_pos aB] at h;simp only[bD,dz] at h;obtain⟨rfl,rfl⟩:=h;simp-implicitDefEqProofs(disch:=try exact ag) only[yo,reduceAdd,reduceLeDiff,reduceIte,az,Bool.not_true,a7,aB,decide_true];refine aY (Bm dt 4) ?_;rintro _ bl ⟨rfl,m2,cK⟩;refine⟨m2.1,?_⟩;exact a8.2 ⟨(aU.mut _).trans m2,cK,eC.nil _ _⟩
  ·rw[if_neg aB] at h;simp only[eT] at h;obtain⟨⟨eI,s1⟩,U,aa⟩:=h;simp only[bD,dz] at aa;obtain⟨rfl,rfl⟩:=aa;obtain⟨m2,mS⟩:=hT dt.rd {s with at_:=hD (s.at_+1),bN:=hD (s.bN+1)};have cK:=dt.mut m2 mS;have ar2:=dt.rd.lt;simp-implicitDefEqProofs(disch:=try exact ag) only[yo,reduceAdd,reduceLeDiff,reduceIte,az,Bool.not_true,a7,aB,decide_false,df];refine aY (ads aT aV aH cK U) ?_;rintro v cQ ⟨m3,eY,bw⟩;refine⟨m3.1,?_⟩;have mV:=eY.rd;have xN:=mV;unfold c1 at xN;obtain⟨m4,ao4⟩:=hT mV (fU s1);have fa:=eY.mut m4 ao4;simp-implicitDefEqProofs(disch:=try exact ag) only[yo,reduceAdd,reduceLeDiff,reduceIte,az,xN,df,mV.lt]
   refine aY (tw fa [125]) ?_;rintro _ dc ⟨rfl,m5,ff⟩;have fw:=aU.1;refine⟨m5.1,?_⟩;exact a8.2 ⟨((((aU.mut _).trans m2).trans m3).trans m4).trans m5,ff,bw.bo (fD.mut (m4.trans m5) (by unfold bG;simp only[J.e9];omega) λk ah=>by unfold bG at*;simp only[J.e9] at ah;omega)⟩
end
section
def d_(H:J)(ok:Nat->Prop)(H':J)(ok':Nat->Prop):Prop:= ∀l b,ok l->H.get l=some b->ok' l/\H'.get l=some b
theorem d_.s{H H':J}{ok ok':Nat->Prop}(h:d_ H ok H' ok'):fD H ok H' ok':=⟨λl _ _ a b=>h l _ a b,λl _ _ a b=>h l _ a b⟩
theorem d_.le{H:J}{ok ok':Nat->Prop}(h: ∀l,ok l->ok' l):d_ H ok H ok':=λl _ a b=>⟨h l a,b⟩
theorem d_.mut{H H':J}{ok:Nat->Prop}{S:Nat->Prop}(m:dE S H H')(h: ∀l,ok l-> ¬S l):d_ H ok H' ok:=λl _ a b=>⟨a,m.get b (h l a)⟩
theorem d_.aK{H H':J}{ok:Nat->Prop}(m:aR H H'):d_ H ok H' ok:=λ_ _ a b=>⟨a,m.get b⟩
theorem d_.trans{H1 bl cQ:J}{a b c:Nat->Prop}(h:d_ H1 a bl b)(k:d_ bl b cQ c):d_ H1 a cQ c:=λl x y z=>k l x (h l x y z).1 (h l x y z).2
structure pt(α:Type) where
 esz:Nat
 V:J->(Nat->Prop)->α->List I->Prop
 len: ∀{H ok a cs},V H ok a cs->cs.length=esz/\cs.all I.one=true
 bo: ∀{H ok H' ok'} {a:α} {cs},d_ H ok H' ok'->V H ok a cs->V H' ok' a cs
section
variable {α:Type}{K:pt α}{H H':J}{ok ok':Nat->Prop}
def fF(K:pt α)(ok:Nat->Prop)(H:J)(l:List α)(v:I):Prop:=(v= .an/\l=[])\/ ∃L els,v= .aM L 0 l.length K.esz none/\ok L/\H.get L=some (.row false K.esz els)/\els.length=l.length/\ ∀(i:Nat) (a:α),l[i]? =some a-> ∃cs,els[i]? =some cs/\K.V H (λk=>ok k/\k≠L) a cs
def eR(K:pt α)(H:J)(ok:Nat->Prop)(l:List α)(v:I):Prop:=(v= .an/\l=[])\/(∃L i cap ro els,v= .aM L i l.length K.esz (Option.map (· +l.length) cap)/\ok L/\H.get L=some (.row ro K.esz els)/\ ∀(j:Nat) (a:α),l[j]? =some a-> ∃cs,els[i+j]? =some cs/\K.V H ok a cs)\/ ∃L i cap,v= .aM L i 0 K.esz cap/\l=[]
theorem fF.one{l:List α}{v:I}(h:fF K ok H l v):v.one=true:=by
 rcases h with⟨rfl,_⟩|⟨L,els,rfl,_⟩<;>rfl
theorem eR.one{l:List α}{v:I}(h:eR K H ok l v):v.one=true:=by
 rcases h with⟨rfl,_⟩|⟨L,i,cap,ro,els,rfl,_⟩|⟨L,i,cap,rfl,_⟩<;>rfl
theorem fF.nil:fF K ok H [] .an:= .inl ⟨rfl,rfl⟩
theorem eR.nil:eR K H ok [] .an:= .inl ⟨rfl,rfl⟩
theorem fF.bo{l:List α}{v:I}(p:d_ H ok H' ok')(h:fF K ok H l v):fF K ok' H' l v:=by
 rcases h with h|⟨L,els,aI,bc,dm,eS,gT⟩
 ·exact .inl h
 ·refine .inr ⟨L,els,aI,(p _ _ bc dm).1,(p _ _ bc dm).2,eS,λi a be=> ?_⟩;obtain⟨cs,cE,cx⟩:=gT i a be;exact⟨cs,cE,K.bo (λk b ah g=>⟨⟨(p _ _ ah.1 g).1,ah.2⟩,(p _ _ ah.1 g).2⟩) cx⟩
theorem eR.bo{l:List α}{v:I}(p:d_ H ok H' ok')(h:eR K H ok l v):eR K H' ok' l v:=by
 rcases h with h|⟨L,i,cap,ro,els,aI,bc,dm,gT⟩|h
 ·exact .inl h
 ·refine .inr (.inl ⟨L,i,cap,ro,els,aI,(p _ _ bc dm).1,(p _ _ bc dm).2,λj a bP=> ?_⟩);obtain⟨cs,cE,cx⟩:=gT j a bP;exact⟨cs,cE,K.bo p cx⟩
 ·exact .inr (.inr h)
theorem fF.aM{l:List α}{v:I}(h:fF K ok H l v):eR K H ok l v:=by
 rcases h with h|⟨L,els,aI,bc,dm,eS,gT⟩
 ·exact .inl h
 ·refine .inr (.inl ⟨L,0,none,false,els,aI,bc,dm,λj a bP=> ?_⟩);obtain⟨cs,cE,cx⟩:=gT j a bP;exact⟨cs,by rw[Nat.zero_add];exact cE,K.bo (d_.le λ_ h=>h.1) cx⟩
structure v6(t e esz:Nat):Prop where
 un:P.underlying t=some (.slice e)
 ts:fq P e=some esz
 qf: ∃b,rA P e=some b/\b<=200
 Ob: ∃z,jZ P e=some z/\z.cells.length=esz/\z.cells.all I.one=true
 pos:0<esz/\esz<=100
theorem aig{t e esz:Nat}(y:v6 t e esz){L:Nat}{cs:List I}{cap:Option Nat}{ro:Bool}(aX:H.get L=some (.row ro esz [cs])):fM P H [t,t] .an (.aM L 0 1 esz cap)=some (.aM H.next 0 1 esz none,H.push (.row false esz [cs])):=by
 obtain⟨b,ay,hZ⟩:=y.qf;obtain⟨z,ct,wm,_⟩:=y.Ob;have U:b<=140737488355328:=Z;simp[fM,y.un,y.ts,ay,ct,wm,y.pos.1,sL,p4,aX,U]
theorem ak3{t e esz:Nat}(y:v6 t e esz){L l n:Nat}{cs:List I}{els:List (List I)}{cap:Option Nat}{ro:Bool}(aX:H.get L=some (.row ro esz [cs]))(ax:H.get l=some (.row false esz els))(aV:els.length=n)(ay:n<=1000000000):fM P H [t,t] (.aM l 0 n esz none) (.aM L 0 1 esz cap)=some (.aM H.next 0 (n+1) esz none,(H.set l .dead).push (.row false esz (els++[cs]))):=by
 obtain⟨b,dS,hZ⟩:=y.qf;obtain⟨z,ct,wm,_⟩:=y.Ob;have U:(n+1)*b<=140737488355328:=Nat.le_trans (Nat.mul_le_mul_left (n+1) hZ) Z;have aa:n+1<=9223372036854775807:=Z;simp[fM,y.un,y.ts,dS,ct,wm,y.pos.1,sL,p4,aX,ax,aV,U,aa];rw[List.take_of_length_le Z]
theorem ue{t e esz:Nat}(y:v6 t e esz)(l:Nat){cs:List I}(h:cs.length=esz)(bs:cs.all I.one=true):dH P l t 1 [(0,.agg cs)]=some (.aM l 0 1 esz (some 1),.row false esz [cs]):=by
 obtain⟨z,ct,wm,jP⟩:=y.Ob;have U:1*esz<=16777216:=by have:=y.pos.2;omega
 have aa:esz<=16777216:=by have:=y.pos.2;omega
 have aS:(I.agg cs).cells=cs:=rfl;simp[dH,y.un,y.ts,ct,wm,qG,h,bs,aa,aS];have apL: ∀x∈z.cells,x.one=true:=by simpa using jP
 rw[decide_eq_true apL];rfl
theorem fF.app{t e:Nat}(y:v6 t e K.esz){l:List α}{v:I}(h:fF K ok H l v){okE:Nat->Prop}{a:α}{cs:List I}(he:K.V H okE a cs)(nd: ∀k b,okE k->H.get k=some b->ok' k/\ ∀L,v= .aM L 0 l.length K.esz none->k≠L)(ah: ∀k b,ok k->H.get k=some b->ok' k)(aV:ok' (H.next+1))(ax:l.length<=1000000000):
  ∃dr H',fM P (H.push (.row false K.esz [cs])) [t,t] v (.aM H.next 0 1 K.esz (some 1))=some (dr,H')/\fF K ok' H' (l++[a]) dr/\H.next+1<=H'.next/\(∀k,k<H.next->(∀L,v= .aM L 0 l.length K.esz none->k≠L)->H'.get k=H.get k):=by
 have aX:=J.ca H (.row false K.esz [cs]);rcases h with⟨rfl,rfl⟩|⟨L,els,rfl,bc,dm,eS,gT⟩
 ·refine⟨_,_,aig y aX,.inr ⟨_,[cs],rfl,by simpa only[J.b6] using aV,J.ca _ _,rfl,λi b be=> ?_⟩,by simp only[J.b6];omega,λk ah _=> ?_⟩
  ·rcases i with _|i
   ·cases be;refine⟨cs,rfl,K.bo (λk b ah g=> ?_) he⟩;have:=J.aW g;exact⟨⟨(nd k b ah g).1,by simp only[J.b6];omega⟩,((aR.push _ _).bV _).get g⟩
   ·simp at be
  ·rw[J.gy (by simp only[J.b6];omega),J.gy Z]
 ·have aqm:=J.aW dm;have aoE:=(aR.push H (.row false K.esz [cs])).get dm;have iS: ∀k b,H.get k=some b->k≠L->(((H.push (.row false K.esz [cs])).set L .dead).push (.row false K.esz (els++[cs]))).get k=some b:=λk b g ah=>by
   have:=J.aW g;rw[J.gy (by simp only[J.e9,J.b6];omega),J.get_set_other Z,J.gy Z];exact g
  refine⟨_,_,ak3 y aX aoE eS ax,.inr ⟨_,els++[cs],by rw[List.length_append];rfl,by simpa only[J.e9,J.b6] using aV,J.ca _ _,by simp[eS],λi b be=> ?_⟩,by simp only[J.e9,J.b6];omega,λk ah dK=> ?_⟩
  ·by_cases x8:i<l.length
   ·rw[List.getElem?_append_left x8] at be;obtain⟨c,cE,cx⟩:=gT i b be;refine⟨c,by rw[List.getElem?_append_left Z];exact cE,K.bo (λk x eZ g=> ?_) cx⟩;have:=J.aW g;exact⟨⟨ah k x eZ.1 g,by simp only[J.e9,J.b6];omega⟩,iS k x g eZ.2⟩
   ·rw[List.getElem?_append_right Z] at be;have Nn:i-l.length=0:=by
     rcases af:i-l.length with _|z
     ·rfl
     ·rw[af] at be;simp at be
    rw[Nn] at be;cases be;refine⟨cs,by rw[List.getElem?_append_right Z,show i-els.length=0 by omega];rfl,K.bo (λk x ah g=> ?_) he⟩;have:=J.aW g;exact⟨⟨(nd k x ah g).1,by simp only[J.e9,J.b6];omega⟩,iS k x g ((nd k x ah g).2 L rfl)⟩
  ·rw[J.gy (by simp only[J.e9,J.b6];omega),J.get_set_other (by exact λe=>dK L rfl e.symm),J.gy Z]
end
end
section
def lg(c:Int):Bool:=(decide (97<=c)&&decide (c<=122))||(decide (65<=c)&&decide (c<=90))
def ox(c:Int):Bool:=decide (48<=c)&&decide (c<=57)
def gR(b:UInt8):Bool:=lg b.toNat
def gF(b:UInt8):Bool:=ox b.toNat
def sK:List bk:=[[114,101,99,111,114,100],[103,108,111,98,97,108],[102,117,110,99],[118,97,114],[108,101,116],[105,102],[101,108,115,101],[119,104,105,108,101],[114,101,116,117,114,110],[112,114,105,110,116],[110,117,108,108],[110,101,119],[108,101,110],[114,101,97,100],[116,114,117,101],[102,97,108,115,101],[105,110,116],[98,111,111,108]]
def lj(x:bk):List bk->Bool
 |[]=>false
 |y::dQ=>y==x||lj x dQ
def rW(x:bk):Bool:=lj x sK
def vJ:bk->Bool
 |[]=>true
 |c::r=>(gR c||gF c)&&vJ r
def iz(x:bk):Bool:=decide (1<=x.length)&&(decide (x.length<=8)&&(gR (x.headD 0)&&(!rW x&&vJ x)))
def runN(d:Bool):bk->Nat
 |[]=>0
 |c::r=>bif gF c||(!d&&gR c) then runN d r+1 else 0
def kH:Int->bk->Option Int
 |n,[]=>some n
 |n,c::r=>if(9223372036854775807-((c.toNat:Int)-48))/10<n then none else kH (10*n+((c.toNat:Int)-48)) r
def o2:List bk:=[[60,61],[61,61],[33,61],[38,38],[124,124]]
def mc:bk:=[123,125,40,41,91,93,59,58,44,46,61,43,45,42,47,37,60,33]
def o6(c:UInt8):bk->Bool
 |[]=>false
 |y::dQ=>c.toNat==y.toNat||o6 c dQ
def lh(s:bk):bk:=bif decide (2<=s.length)&&lj (s.take 2) o2 then s.take 2 else match s with
 |c::_=>bif o6 c mc then[c] else[]
 |[]=>[]
def n4(c:UInt8):Bool:=c.toNat==32||(c.toNat==9||(c.toNat==10||c.toNat==13))
def dY:Bool->bk->Nat
 |_,[]=>0
 |true,c::r=>bif c.toNat==10 then dY false r+1 else dY true r+1
 |false,c::r=>bif n4 c then dY false r+1 else bif c==47&&r.head?==some 47 then dY true r+1 else 0
def jM(s:bk):Option (Int×bk×Int×Nat):=match s with
 |[]=>none
 |c::_=>
  bif gR c then(bif rW (s.take (runN false s)) then some (3,s.take (runN false s),0,runN false s) else bif iz (s.take (runN false s)) then some (1,s.take (runN false s),0,runN false s) else none)
  else bif gF c then
   (match kH 0 (s.take (runN true s)) with
   |none=>none
   |some v=>bif (decide (1<runN true s)&&c.toNat==48)||(decide (runN true s<s.length)&&gR ((s[runN true s]?).getD 0)) then none else some (2,[],v,runN true s))
  else bif lh s==[] then none else some (4,lh s,0,(lh s).length)
def hW:Nat->bk->Nat->Nat ⊕ List Tok
 |0,_,p=> .inl p
 |_+1,[],p=> .inr [⟨0,[],0,p⟩]
 |n+1,c::r,p=>match jM (c::r) with
  |none=> .inl p
  |some (k,t,v,m)=>match hW n (((c::r).drop m).drop (dY false ((c::r).drop m))) (p+m+dY false ((c::r).drop m)) with
   | .inl e=> .inl e
   | .inr l=> .inr (⟨k,t,v,p⟩::l)
def zZ(s:bk):Nat ⊕ List Tok:=hW (s.length+1) (s.drop (dY false s)) (dY false s)
def gg(s:bk):List Tok×Int×Int:=if 6000<s.length then([],4,0) else match zZ s with
 | .inl e=>([],1,e)
 | .inr l=>(l,0,0)
end
section
structure dW where
 name:bk
 eQ:bk
 fS:Int
 pos:Int
structure iG where
 name:bk
 fields:List dW
 pos:Int
structure Fn where
 name:bk
 params:List dW
 has:Bool
 fC:bk
 rd:Int
 body:List cy
 pos:Int
structure eb where
 ey:List iG
 globals:List dW
 funcs:List Fn
def eb.none:eb:=⟨[],[],[]⟩
def gZ(T:List Tok)(s:aw):dW×aw:=(⟨(fN T s).1.1,(fN T s).1.2.1,(fN T s).1.2.2,(aq T s.at_).pos⟩,(fN T s).2)
def rp(T:List Tok):Nat->List dW->aw->R (List dW)
 |0,_,_=>none
 |n+1,l,s=>bif s.aA==0&& !b2 T s [125] then
  (bif (aq T s.at_).kind==1&&l.length==8 then some (l,cL T 4 s) else rp T n (l++[(gZ T s).1]) (cq T [59] (gZ T s).2))
  else some (l,s)
def tF(T:List Tok)(n:Nat)(s:aw):R iG:=(rp T n [] (cq T [123] (da T s).2)).bind λp=>some (⟨(da T s).1,p.1,(aq T s.at_).pos⟩,cq T [125] p.2)
def tP(T:List Tok)(s:aw):aw:=bif b2 T (cq T [44] s) [41] then cL T 2 (cq T [44] s) else cq T [44] s
def nq(T:List Tok):Nat->List dW->aw->R (List dW)
 |0,_,_=>none
 |n+1,l,s=>bif s.aA==0&& !b2 T s [41] then
  (bif (aq T s.at_).kind==1&&l.length==6 then some (l,cL T 4 s) else
   nq T n (l++[(gZ T s).1]) (bif b2 T (gZ T s).2 [41] then(gZ T s).2 else tP T (gZ T s).2))
  else some (l,s)
def oE(T:List Tok)(s:aw):(Bool×bk×Int)×aw:=bif b2 T s [58] then((true,(e5 T (aE s)).1),(e5 T (aE s)).2) else((false,[],0),s)
def tz(T:List Tok)(n:Nat)(s:aw):R Fn:=
 (nq T n [] (cq T [40] (da T s).2)).bind λp=>
  (jX T n (oE T (cq T [41] p.2)).2).bind λb=>
   some (⟨(da T s).1,p.1,(oE T (cq T [41] p.2)).1.1,(oE T (cq T [41] p.2)).1.2.1,(oE T (cq T [41] p.2)).1.2.2,b.1,(aq T s.at_).pos⟩,b.2)
def isRec(T:List Tok)(s:aw):Bool:=b2 T s [114,101,99,111,114,100]
def rP(T:List Tok)(s:aw):Bool:=b2 T s [103,108,111,98,97,108]
def isFun(T:List Tok)(s:aw):Bool:=b2 T s [102,117,110,99]
def iX(T:List Tok)(N:Nat):Nat->eb->aw->R eb
 |0,_,_=>none
 |n+1,g,s=>bif s.aA==0&&(aq T s.at_).kind != 0 then
  (bif (isRec T s&&g.ey.length==12)||((rP T s&&g.globals.length==8)||(isFun T s&&g.funcs.length==16)) then iX T N n g (cL T 4 s)
  else bif isRec T s then(tF T N (aE s)).bind λp=>iX T N n {g with ey:=g.ey++[p.1]} p.2
  else bif rP T s then iX T N n {g with globals:=g.globals++[(gZ T (aE s)).1]} (cq T [59] (gZ T (aE s)).2)
  else bif isFun T s then(tz T N (aE s)).bind λp=>iX T N n {g with funcs:=g.funcs++[p.1]} p.2
  else iX T N n g (cL T 2 s))
  else some (g,s)
def uo(g:eb)(s:aw):eb×Int×Int:=if s.aA=0 then(g,0,0) else(.none,s.aA,s.cw)
end
section
def Eh(t:Tok):Prop:=(t.kind=1/\t.n=0/\iz t.text=true)\/(t.kind=3/\t.n=0/\rW t.text=true)\/(t.kind=2/\t.text=[]/\0<=t.n/\t.n<=9223372036854775807)\/(t.kind=4/\t.n=0/\(lj t.text o2=true\/ ∃c,t.text=[c]/\o6 c mc=true))
theorem afE{c:UInt8}:gF c=true↔48<=c.toNat/\c.toNat<=57:=by
 simp only[gF,ox,Bool.and_eq_true,decide_eq_true_eq];omega
theorem SA{d:Bool}: ∀s:bk,∀c∈s.take (runN d s),(gF c||(!d&&gR c))=true
 |[],_,h=>by simp[runN] at h
 |c::r,x,h=>by
  rw[runN] at h;cases aS:(gF c||(!d&&gR c)) with
  |false=>rw[aS] at h;simp at h
  |true=>
   rw[aS] at h;simp only[bx,List.take_succ_cons,List.mem_cons] at h;rcases h with rfl|h
   ·exact aS
   ·exact SA r x h
theorem Rt: ∀(l:bk) (a v:Int),(∀c∈l,gF c=true)->0<=a->a<=9223372036854775807->kH a l=some v->0<=v/\v<=9223372036854775807
 |[],a,v,_,a6,U,h=>by simp only[kH,bD] at h;omega
 |c::r,a,v,bb,a6,U,h=>by
  rw[kH] at h;have aS:=afE.1 (bb c (List.mem_cons_self));split at h
  ·cases h
  ·exact Rt r _ v (λc aS=>bb c (List.mem_cons_of_mem _ aS)) Z Z h
theorem aiF{s:bk}{t:Tok}{m:Nat}(h:jM s=some (t.kind,t.text,t.n,m)):Eh t:=by
 obtain⟨k,x,z,p⟩:=t;rcases s with _|⟨c,r⟩
 ·simp[jM] at h
 rw[jM] at h;cases ax:gR c with
 |true=>
  rw[ax,bx] at h;generalize (c::r).take (runN false (c::r))=y at*;cases hw:rW y with
  |true=>
   rw[hw,bx] at h;simp only[bD,dz] at h;obtain⟨rfl,rfl,rfl,-⟩:=h;exact .inr (.inl ⟨rfl,rfl,hw⟩)
  |false=>
   rw[hw,bi] at h;cases aV:iz y with
   |false=>rw[aV] at h;cases h
   |true=>
    rw[aV,bx] at h;simp only[bD,dz] at h;obtain⟨rfl,rfl,rfl,-⟩:=h;exact .inl ⟨rfl,rfl,aV⟩
 |false=>
  rw[ax,bi] at h;cases bb:gF c with
  |true=>
   rw[bb,bx] at h;have b1:=SA (d:=true) (c::r);cases hw:kH 0 ((c::r).take (runN true (c::r))) with
   |none=>rw[hw] at h;cases h
   |some v=>
    rw[hw] at h;simp only at h;have bw:=Rt _ 0 v (λc aS=>by simpa using b1 c aS) Z Z hw;cases af:((decide (1<runN true (c::r))&&c.toNat==48)||(decide (runN true (c::r)<(c::r).length)&&gR (((c::r)[runN true (c::r)]?).getD 0))) with
    |true=>rw[af] at h;cases h
    |false=>
     rw[af] at h;simp only[bi,bD,dz] at h;obtain⟨rfl,rfl,rfl,-⟩:=h;exact .inr (.inr (.inl ⟨rfl,rfl,bw⟩))
  |false=>
   rw[bb,bi] at h;cases aO:lh (c::r)==[] with
   |true=>rw[aO] at h;cases h
   |false=>
    rw[aO,bi] at h;simp only[bD,dz] at h;obtain⟨rfl,rfl,rfl,-⟩:=h;refine .inr (.inr (.inr ⟨rfl,rfl,?_⟩));have uF:(lh (c::r)==[])=false:=aO;show lj (lh (c::r)) o2=true\/ ∃d,lh (c::r)=[d]/\o6 d mc=true;unfold lh at uF ⊢;cases aa:(decide (2<=(c::r).length)&&lj ((c::r).take 2) o2) with
    |true=>rw[bx];exact .inl (Bool.and_eq_true_iff.1 aa).2
    |false=>
     rw[aa] at uF;simp only[bi] at uF ⊢;cases ae:o6 c mc with
     |false=>rw[ae] at uF;cases uF
     |true=>exact .inr ⟨c,rfl,ae⟩
theorem TE: ∀(n:Nat) (s:bk) (p:Nat) (l:List Tok),hW n s p= .inr l-> ∀t∈l,Eh t\/t.kind=0
 |0,_,_,_,h=>by cases h
 |n+1,[],p,l,h=>by cases h;intro t bC;simp only[List.mem_cons,List.not_mem_nil,or_false] at bC;subst bC;exact .inr rfl
 |n+1,c::r,p,l,h=>by
  rw[hW] at h;split at h
  ·cases h
  ·rename_i k t v m bs;split at h
   ·cases h
   ·rename_i l' ax;cases h;intro u hu;rcases List.mem_cons.1 hu with rfl|hu
    ·exact .inl (aiF (t:=⟨k,t,v,p⟩) bs)
    ·exact TE n _ _ _ ax u hu
theorem afm{s:bk}: ∀t∈(gg s).1,Eh t\/t.kind=0:=by
 unfold gg;split
 ·intro t bC;cases bC
 ·cases h:zZ s with
  |inl e=>intro t bC;cases bC
  |inr l=>exact TE _ _ _ _ h
end
section
def wq(k:Int):Nat:=if k=24 then 1 else if k=23 then 2 else if 19<=k/\k<=22 then 3 else if k=14\/k=15 then 4 else if 16<=k/\k<=18 then 5 else if k=12\/k=13 then 6 else 7
def bh.bq(e:bh):Nat:=wq e.kind
def zM(x:bk)(d:Int):Prop:=0<=d/\d<=3/\(iz x=true\/x=[105,110,116]\/x=[98,111,111,108])
inductive gi:Nat->Nat->bh->Prop
 |par {d m e}:gi d 0 e->e.bq<m->m<=7->gi (d+1) m e
 |int {d m n p}:m<=7->0<=n->n<=9223372036854775807->gi d m (.mk {kind:=1,n:=n,pos:=p} [])
 |bool {d m n p}:m<=7->n=0\/n=1->gi d m (.mk {kind:=2,n:=n,pos:=p} [])
 |null {d m x z p}:m<=7->zM x z->gi d m (.mk {kind:=3,eQ:=x,fS:=z,pos:=p} [])
 |var {d m x p}:m<=7->iz x=true->gi d m (.mk {kind:=4,name:=x,pos:=p} [])
 |field {d m x p e}:m<=7->iz x=true->gi d 7 e->gi d m (.mk {kind:=5,name:=x,pos:=p} [e])
 |item {d m p e i}:m<=7->gi (d+1) 7 e->gi d 0 i->gi (d+1) m (.mk {kind:=6,pos:=p} [e,i])
 |call {d m x p l}:m<=7->iz x=true->(∀e∈l,gi d 0 e)->gi (d+1) m (.mk {kind:=7,name:=x,pos:=p} l)
 |new {d m x p}:m<=7->iz x=true->gi d m (.mk {kind:=8,eQ:=x,pos:=p} [])
 |make {d m x z p e}:m<=7->zM x z->gi d 0 e->gi (d+1) m (.mk {kind:=9,eQ:=x,fS:=z,pos:=p} [e])
 |len {d m p e}:m<=7->gi d 0 e->gi (d+1) m (.mk {kind:=10,pos:=p} [e])
 |read {d m p}:m<=7->gi (d+1) m (.mk {kind:=11,pos:=p} [])
 |sign {d m k p e}:m<=6->k=12\/k=13->gi d 6 e->gi (d+1) m (.mk {kind:=k,pos:=p} [e])
 |bin {d m k p a b}:m<=wq k->14<=k->k<=24->gi d (wq k) a->gi d (wq k+1) b->gi d m (.mk {kind:=k,pos:=p} [a,b])
theorem alA(k:Int):1<=wq k/\wq k<=7:=by
 unfold wq;(repeat' split)<;>omega
theorem gi.more{d m:Nat}{e:bh}(h:gi d m e): ∀{ek:Nat},d<=ek->gi ek m e:=by
 induction h with
 |par _ aa ae aT=>intro ek bb;obtain⟨k,rfl⟩: ∃k,ek=k+1:=⟨ek-1,Z⟩;exact .par (aT Z) aa ae
 |int a6 U aa=>intro ek _;exact .int a6 U aa
 |bool a6 U=>intro ek _;exact .bool a6 U
 |null a6 U=>intro ek _;exact .null a6 U
 |var a6 U=>intro ek _;exact .var a6 U
 |field a6 U _ aT=>intro ek bb;exact .field a6 U (aT bb)
 |item a6 _ _ ih1 ih2=>intro ek bb;obtain⟨k,rfl⟩: ∃k,ek=k+1:=⟨ek-1,Z⟩;exact .item a6 (ih1 bb) (ih2 Z)
 |call a6 U _ aT=>intro ek bb;obtain⟨k,rfl⟩: ∃k,ek=k+1:=⟨ek-1,Z⟩;exact .call a6 U λe he=>aT e he Z
 |new a6 U=>intro ek _;exact .new a6 U
 |make a6 U _ aT=>intro ek bb;obtain⟨k,rfl⟩: ∃k,ek=k+1:=⟨ek-1,Z⟩;exact .make a6 U (aT Z)
 |len a6 _ aT=>intro ek bb;obtain⟨k,rfl⟩: ∃k,ek=k+1:=⟨ek-1,Z⟩;exact .len a6 (aT Z)
 |read a6=>intro ek bb;obtain⟨k,rfl⟩: ∃k,ek=k+1:=⟨ek-1,Z⟩;exact .read a6
 |sign a6 U _ aT=>intro ek bb;obtain⟨k,rfl⟩: ∃k,ek=k+1:=⟨ek-1,Z⟩;exact .sign a6 U (aT Z)
 |bin a6 U aa _ _ ih1 ih2=>intro ek bb;exact .bin a6 U aa (ih1 bb) (ih2 bb)
theorem gi.at{d m:Nat}{e:bh}(h:gi d 0 e)(hm:m<=e.bq):gi d m e:=by
 have aP:=(alA e.kind).2;have q6:m<=7:=Nat.le_trans hm aP;cases h with
 |par _ h _=>omega
 |int a6 U aa=>exact .int q6 U aa
 |bool a6 U=>exact .bool q6 U
 |null a6 U=>exact .null q6 U
 |var a6 U=>exact .var q6 U
 |field a6 U aa=>exact .field q6 U aa
 |item a6 U aa=>exact .item q6 U aa
 |call a6 U aa=>exact .call q6 U aa
 |new a6 U=>exact .new q6 U
 |make a6 U aa=>exact .make q6 U aa
 |len a6 U=>exact .len q6 U
 |read a6=>exact .read q6
 |sign a6 U aa=>exact .sign (by rcases U with rfl|rfl<;>exact hm) U aa
 |bin a6 U aa ae al=>exact .bin hm U aa ae al
theorem gi.low{d m:Nat}{e:bh}(h:gi d m e){fp:Nat}(hm:fp<=m):gi d fp e:=by
 cases h with
 |par U aa ae=>
  by_cases aS:e.bq<fp
  ·exact .par U aS Z
  ·exact(U.at Z).more (Nat.le_succ _)
 |int a6 U aa=>exact .int Z U aa
 |bool a6 U=>exact .bool Z U
 |null a6 U=>exact .null Z U
 |var a6 U=>exact .var Z U
 |field a6 U aa=>exact .field Z U aa
 |item a6 U aa=>exact .item Z U aa
 |call a6 U aa=>exact .call Z U aa
 |new a6 U=>exact .new Z U
 |make a6 U aa=>exact .make Z U aa
 |len a6 U=>exact .len Z U
 |read a6=>exact .read Z
 |sign a6 U aa=>exact .sign Z U aa
 |bin a6 U aa ae al=>exact .bin Z U aa ae al
theorem gi.up{d:Nat}{e:bh}(h:gi d 0 e){m:Nat}(hm:m<=7):gi (d+1) m e:=by
 by_cases aS:e.bq<m
 ·exact .par h aS hm
 ·exact(h.at Z).more (Nat.le_succ _)
mutual
def l1:bh->Nat
 | .mk a kids=>40+a.name.length+a.eQ.length+kT kids
def kT:List bh->Nat
 |[]=>0
 |e::r=>l1 e+kT r
end
theorem VY: ∀(l:List bh) (e:bh),kT (l++[e])=kT l+l1 e
 |[],e=>by simp[kT]
 |x::l,e=>by rw[List.cons_append,kT,VY l e,kT];omega
structure In(E:Int)(s:aw):Prop where
 a:0<=s.at_
 b:s.at_<=E
 c:0<=s.bN
 d:s.bN<=50
structure fk(E:Int)(s s':aw)(k:Int):Prop where
 f:s.aA=0
 nc:s'.aA=0
 o:s'.bN=s.bN
 a:s.at_+k<=s'.at_
 b:s'.at_<=E
structure Good(T:List Tok)(E:Int):Prop where
 n:E<=20000000
 lt: ∀a,(aq T a).kind≠0->a<E
 t: ∀t∈T,Eh t\/t.kind=0
section
variable {T:List Tok}{E:Int}{s s' s2:aw}
theorem fk.trans{k l:Int}(h:fk E s s' k)(bZ:fk E s' s2 l):fk E s s2 (k+l):=⟨h.f,bZ.nc,bZ.o.trans h.o,by have:=h.a;have:=bZ.a;omega,bZ.b⟩
theorem fk.less{k l:Int}(h:fk E s s' k)(ax:l<=k):fk E s s' l:=⟨h.f,h.nc,h.o,by have:=h.a;omega,h.b⟩
theorem fk.in{k:Int}(be:In E s)(h:fk E s s' k)(ah:0<=k):In E s':=⟨by have:=h.a;have:=be.a;omega,h.b,by rw[h.o];exact be.c,by rw[h.o];exact be.d⟩
theorem fk.refl(be:In E s)(h:s.aA=0):fk E s s 0:=⟨h,h,rfl,Z,be.b⟩
theorem VV{a:Int}(h:(aq T a).kind≠0):0<=a/\a<T.length/\aq T a∈T:=by
 unfold aq at h ⊢;split at h
 ·exact absurd rfl h
 ·rename_i aS;have:a.toNat<T.length:=Z;rw[if_neg aS,List.getElem?_eq_getElem this,Option.getD_some];exact⟨Z,Z,List.getElem_mem _⟩
theorem VW(aH:Good T E){a:Int}(h:(aq T a).kind≠0):Eh (aq T a):=(aH.t _ (VV h).2.2).resolve_right h
theorem agq(aH:Good T E){a:Int}(h:(aq T a).kind=1):iz (aq T a).text=true:=by
 rcases VW aH (a:=a) Z with bZ|bZ|bZ|bZ
 ·exact bZ.2.2
 all_goals omega
theorem aie(aH:Good T E){a:Int}(h:(aq T a).kind=2):0<=(aq T a).n/\(aq T a).n<=9223372036854775807:=by
 rcases VW aH (a:=a) Z with bZ|bZ|bZ|bZ
 ·omega
 ·omega
 ·exact bZ.2.2
 ·omega
theorem go_ok(aH:Good T E)(be:In E s)(ak:s.aA=0)(h:(aq T s.at_).kind≠0):aE s={s with at_:=s.at_+1}/\fk E s (aE s) 1:=by
 have kP:=aH.lt _ h;have aV:=aH.n;have Io:=be.a;have e:aE s={s with at_:=s.at_+1}:=by
  unfold aE hD;rw[IntWalk.i64_in _ ⟨Z,Z⟩]
 refine⟨e,?_⟩;rw[e];exact⟨ak,ak,rfl,by simp,by simp only;omega⟩
theorem iU{e:Int}(he:e≠0):(cL T e s).aA≠0:=by
 unfold cL;split
 ·exact he
 ·assumption
theorem ik{x:bk}(h:b2 T s x=true):s.aA=0/\(aq T s.at_).kind=kw x/\(aq T s.at_).text=x:=sz h
theorem L4(x:bk):kw x≠0:=by
 unfold kw;split
 ·split<;>decide
 ·decide
theorem mE(aH:Good T E)(be:In E s){x:bk}(h:b2 T s x=true):fk E s (aE s) 1:=by
 obtain⟨U,aa,-⟩:=ik h;exact(go_ok aH be U (by rw[aa];exact L4 x)).2
abbrev hs(E:Int)(s:aw):Prop:=s.aA=0->In E s
theorem fk.pj{k:Int}(be:hs E s)(h:fk E s s' k)(ah:0<=k):hs E s':=λ_=>h.in (be h.f) ah
theorem l4(aH:Good T E)(be:hs E s){x:bk}(h:(cq T x s).aA=0):b2 T s x=true/\cq T x s=aE s/\fk E s (cq T x s) 1:=by
 unfold cq at h ⊢;cases af:b2 T s x with
 |true=>rw[bx];exact⟨rfl,rfl,mE aH (be (ik af).1) af⟩
 |false=>rw[af,bi] at h;exact absurd h (iU cl)
theorem BO(aH:Good T E)(be:hs E s)(h:(da T s).2.aA=0):iz (da T s).1=true/\fk E s (da T s).2 1:=by
 unfold da at h ⊢;cases af:(s.aA==0&&(aq T s.at_).kind==1) with
 |true=>
  simp only[Bool.and_eq_true,beq_iff_eq] at af;rw[bx];exact⟨agq aH af.2,(go_ok aH (be af.1) af.1 Z).2⟩
 |false=>rw[af,bi] at h;exact absurd h (iU cl)
theorem wO{x:bk}(h:iz x=true):x.length<=8:=by
 simp only[iz,Bool.and_eq_true,decide_eq_true_eq] at h;exact h.2.1
theorem G7{x:bk}{d:Int}(h:zM x d):x.length<=8:=by
 rcases h.2.2 with h|rfl|rfl
 ·exact wO h
 ·decide
 ·decide
theorem qE(aH:Good T E)(be:hs E s){x:bk}(h:(eE T x s).aA=0):b2 T s x=true/\s.aA=0/\(eE T x s).bN=s.bN+1/\(eE T x s).at_=s.at_+1/\In E (eE T x s)/\s.bN+1<=50:=by
 unfold eE at h ⊢;cases af:b2 T s x&&decide (50<=s.bN) with
 |true=>rw[af,bx] at h;exact absurd h (iU cl)
 |false=>
  rw[af,bi] at h;rw[bi];have bZ:(cq T x s).aA=0:=h;obtain⟨U,aa,ae⟩:=l4 aH be bZ;obtain⟨cS,dq,-⟩:=ik U;have be:=be cS;obtain⟨g1,-⟩:=go_ok aH be cS (by rw[dq];exact L4 x);rw[U,Bool.true_and] at af;have bs:s.bN<50:=by have:=of_decide_eq_false af;omega
  have aS:=be.c;have e:hD (s.bN+1)=s.bN+1:=IntWalk.i64_in _ ⟨Z,Z⟩;have YH:=ae.a;have YI:=ae.b;have Io:=be.a;rw[aa,g1] at YH YI ⊢;simp only[ig,e] at YH YI ⊢;exact⟨U,cS,trivial,trivial,⟨by simp only;omega,by simp only;omega,by simp only;omega,by simp only;omega⟩,Z⟩
theorem La(be:In E s):fU s={s with bN:=s.bN-1}:=by
 have:=be.c;have:=be.d;unfold fU hD;rw[IntWalk.i64_in _ ⟨Z,Z⟩]
theorem DI(aH:Good T E){k:Int}(ah:0<=k)(bs:s.bN+1=s'.bN)(b1:s.at_+1=s'.at_)(ak:s.aA=0)(At:In E s')(hw:fk E s' s2 k){x:bk}(h:(f0 T x s2).aA=0):fk E s (f0 T x s2) (k+2):=by
 have bZ:(cq T x s2).aA=0:=h;have CW:=hw.in At ah;obtain⟨U,aa,ae⟩:=l4 aH (λ_=>CW) bZ;have No:=ae.in CW Z;unfold f0 at h ⊢;rw[La No] at h ⊢;have bd:=hw.a;have a2:=ae.a;have cZ:=hw.o;have dk:=ae.o;exact⟨ak,h,by simp only;omega,by simp only;omega,ae.b⟩
theorem KU(aH:Good T E){x:bk}: ∀(n:Nat) (s:aw),hs E s->(takeN T x n s).aA=0->fk E s (takeN T x n s) n
 |0,s,be,h=> .refl (be h) h
 |n+1,s,be,h=>by
  have ay:(cq T x s).aA=0:=by
   by_cases ay:(cq T x s).aA=0
   ·exact ay
   ·exfalso;have key: ∀(n:Nat) (s:aw),s.aA≠0->(takeN T x n s).aA≠0:=by
     intro n
     induction n with
     |zero=>intro s aO;exact aO
     |succ n aT=>intro s aO;exact aT _ (by unfold cq;rw[hg aO,bi,iK aO];exact aO)
    exact key n _ ay h
  obtain⟨-,-,ae⟩:=l4 aH be ay;have:=ae.trans (KU aH n _ (ae.pj be Z) h);exact this.less Z
theorem TK(aH:Good T E): ∀(n:Nat) (d:Int) (s:aw) {q:Int×aw},In E s->0<=d->jm T n d s= .inl q->s.aA=0->d<=q.1/\q.1<=d+n/\fk E s q.2 (q.1-d)/\b2 T q.2 [91]=false
 |0,d,s,q,be,bb,h,ak=>by
  rw[jm] at h;cases af:b2 T s [91] with
  |true=>rw[af,bx] at h;cases h
  |false=>
   rw[af,bi] at h;cases h;exact⟨Int.le_refl _,by simp,(fk.refl be ak).less (by simp),af⟩
 |n+1,d,s,q,be,bb,h,ak=>by
  rw[jm] at h;cases af:b2 T s [91] with
  |true=>
   rw[af,bx] at h;have aX:=mE aH be af;obtain⟨U,aa,ae,al⟩:=TK aH n (d+1) _ (aX.in be Z) Z h aX.nc;exact⟨Z,Z,(aX.trans ae).less Z,al⟩
  |false=>
   rw[af,bi] at h;cases h;exact⟨Int.le_refl _,Z,(fk.refl be ak).less (by simp),af⟩
theorem afZ: ∀(n:Nat) (d:Int) (s:aw),s.aA≠0->jm T n d s= .inl (d,s)
 |0,d,s,h=>by rw[jm,hg h];rfl
 |n+1,d,s,h=>by rw[jm,hg h];rfl
theorem Kw{x:bk}: ∀(n:Nat) (s:aw),s.aA≠0->(takeN T x n s).aA≠0
 |0,s,aO=>aO
 |n+1,s,aO=>Kw n _ (by unfold cq;rw[hg aO,bi,iK aO];exact aO)
theorem Ep(aH:Good T E)(be:hs E s)(h:(e5 T s).2.aA=0):zM (e5 T s).1.1 (e5 T s).1.2/\fk E s (e5 T s).2 1:=by
 have ak:s.aA=0:=by
  by_cases ak:s.aA=0
  ·exact ak
  ·exfalso;unfold e5 at h;rw[afZ 3 0 s ak] at h;simp only[jl,hg ak,Bool.or_self,bi,Gd ak] at h;exact Kw _ _ ak h
 have be:=be ak;unfold e5 at h ⊢;cases bg:jm T 3 0 s with
 |inr s'=>
  exfalso;rw[bg] at h;have key: ∀(n:Nat) (d:Int) (s:aw) {s':aw},jm T n d s= .inr s'->s'.aA≠0:=by
   intro n
   induction n with
   |zero=>
    intro d s s' h;rw[jm] at h;cases af:b2 T s [91]<;>rw[af] at h<;>cases h;exact iU cl
   |succ n aT=>
    intro d s s' h;rw[jm] at h;cases af:b2 T s [91]<;>rw[af] at h
    ·cases h
    ·exact aT _ _ h
  exact key _ _ _ bg h
 |inl q=>
  obtain⟨U,aa,ae,-⟩:=TK aH 3 0 s be Z bg ak;rw[bg] at h;obtain⟨d,s1⟩:=q;simp only at h U aa ae ⊢;have Ff:=ae.in be Z;unfold jl at h ⊢;cases af:b2 T s1 [105,110,116]||b2 T s1 [98,111,111,108] with
  |true=>
   rw[af,bx] at h;rw[bx];have aX:fk E s1 (aE s1) 1/\((aq T s1.at_).text=[105,110,116]\/(aq T s1.at_).text=[98,111,111,108]):=by
    rcases Bool.or_eq_true_iff.1 af with af|af
    ·exact⟨mE aH Ff af,.inl (ik af).2.2⟩
    ·exact⟨mE aH Ff af,.inr (ik af).2.2⟩
   have aV:=KU aH _ _ (aX.1.pj (λ_=>Ff) Z) h;exact⟨⟨U,by simpa using aa,.inr aX.2⟩,((ae.trans aX.1).trans aV).less Z⟩
  |false=>
   rw[af,bi] at h;rw[bi];have ay:(da T s1).2.aA=0:=by
    by_cases ay:(da T s1).2.aA=0
    ·exact ay
    ·exact absurd h (Kw _ _ ay)
   obtain⟨fw,n2⟩:=BO aH (λ_=>Ff) ay;have aV:=KU aH _ _ (n2.pj (λ_=>Ff) Z) h;exact⟨⟨U,by simpa using aa,.inl fw⟩,((ae.trans n2).trans aV).less Z⟩
end
end
end Go.Proofs.YtghmbpmaafnodaaGreatDoor
