/-
  Texts of one proof, laid together: U6 U7 ShP Fds Qb Qc Qd.
-/
import Derived.Test.YtghmbpmaafnodaaGreatDoorML
import Derived.Test.YtghmbpmaafnodaaGreatDoorMM
import Derived.Test.YtghmbpmaafnodaaGreatDoorMD
set_option linter.unusedVariables false
set_option linter.unusedSimpArgs false
namespace Go.Proofs.YtghmbpmaafnodaaGreatDoor
open Go.gd
open Nat (reduceAdd reduceLeDiff)
section
theorem LY:P.underlying 144=some (.map 9 143):=ad
theorem VF:j2 P 143=some .nilFunc:=ad
theorem Ck{H:J}{l:Nat}{es:List (I×I)}(k:bl)(v:I)(aZ:H.get l=some (.map es))(al:pO .string (.str k) es 0=some none):jk P H 144 (.map l) (.str k) v=some (H.set l (.map (es++[(.str k,v)]))):=by
 simp only[jk,LY,wv,aZ,plainKey,al,if_true]
def ud:List (I×I):=[(.str [118,97,114],fn 139),(.str [108,101,116],fn 140),(.str [105,102],fn 141),(.str [119,104,105,108,101],fn 142),(.str [114,101,116,117,114,110],fn 143),(.str [112,114,105,110,116],fn 144)]
theorem acJ(H:J):W (aq P ao 125 [] H) λv H'=>v= .map H.next/\H'=H.push (.map ud):=by
 refine cP (λ_=>ah0 0) ?_;simp only[HS,yI];rw[Ck _ _ (J.ca H _) rfl,lz (by simp),J.nW];rw[Ck _ _ (J.ca H _) rfl,lz (by simp),J.nW];rw[Ck _ _ (J.ca H _) rfl,lz (by simp),J.nW];rw[Ck _ _ (J.ca H _) rfl,lz (by simp),J.nW];rw[Ck _ _ (J.ca H _) rfl,lz (by simp),J.nW];rw[Ck _ _ (J.ca H _) rfl,lz (by simp),J.nW];exact a_.2 ⟨rfl,rfl⟩
theorem aky{H:J}{l:Nat}(t:bl)(aZ:H.get l=some (.map ud)):nX P H 144 (.map l) (.str t) false=some (j5 t ud):=by
 rcases Gc t ud 0 (by intro e he;simp[ud] at he;rcases he with rfl|rfl|rfl|rfl|rfl|rfl<;>exact⟨_,rfl⟩) with⟨j,v,U,aa⟩|⟨U,aa⟩
 ·simp only[nX,LY,wv,VF,plainKey,if_true,aZ,U,aa,Bool.false_eq_true,if_false]
 ·simp only[nX,LY,wv,VF,plainKey,if_true,aZ,U,aa,Bool.false_eq_true,if_false]
theorem akE(n:Nat):aW P .neq 143 true (fn n) .nilFunc=some (.bool true):=ad
theorem ahB:aW P .neq 143 true .nilFunc .nilFunc=some (.bool false):=ad
theorem KF{H0 H:J}{r:Nat}{T:List Tok}{ak:I}{s0 s:aA}(bs:c_ H0 r T ak s0)(bP:cC r H0 H)(cp:c7 H r ak s){k b:Nat}{e:cE}{s':aA}{cD eH eE:Int}{cu:bl}(aS: ∀hK,c_ hK r T ak s->W (aq P ao k [.ptr r 0 0] hK) (gJ hK r T ak e s'))
  (g2:H.get H0.next=some (.row false 9 [[.int .i64 0,.str [],.str [],.int .i64 0,.ap,.ap,.ap,.int .i64 0,.int .i64 0]])) (g3:H.get b=some (.row false 4 [[.int .i64 cD,.str cu,.int .i64 eH,.int .i64 eE]])) (ax:H0.next<=b):
  W (wZ (aq P ao) (.ptr r 0 0) (.ptr H0.next 0 0) (.ptr b 0 0) (fn k) H) (gJ H0 r T ak (e.at eE) s'):=by
 have az:=bs.rd.lt;have N2:=J.aX g2;rw[wZ];simp only[fn,sx,List.nil_append,List.append_nil];refine a6 (aS H (bs.mut bP cp)) ?_;rintro v H1 ⟨m1,du,he⟩;refine⟨m1.1,?_⟩;have aa:=m1.get g2 Z;have ae:=m1.get g3 Z;have fA:=J.aX aa;have gS:=J.aX ae;cases e with|mk a es df bM=>
 obtain⟨ev,bv,fw,rfl,cG,dh,dL⟩:=rz.1 he;have cR:=cG.gi;have dd:=dh.gi;have dG:=dL.gi;simp-implicitDefEqProofs(disch:=try exact af) only[vT,reduceAdd,reduceLeDiff,reduceIte,aw,d_,dH.cells,cR,dd,dG,aa,ae];have iW: ∀hj,fG H1 (bI H.next) (H1.push hj) (bI (H0.next+1)):=λhj=>fG.aK (aR.push _ _) λl az=>by unfold bI at*;omega
 exact a_.2 (gJ.fin (a:={a with pos:=eE}) bs ((bP.trans m1).bX _) (du.rd.aK (aR.push _ _)) (cG.bo (iW _).ex) (dh.bo (iW _)) (dL.bo (iW _)) (bN _) (Nat.lt_succ_self _) _)
theorem aeH{n:Nat}(Ns:Ko n)(AE:Kq n):D0 (n+1):=by
 intro H r T ak s aH ag e s' h;refine cP (λ_=>ahM 0) ?_;have az:=ag.rd.lt;have de:=ag.cf.one;have aV:=aR.push H (.row false 9 [[.int .i64 0,.str [],.str [],.int .i64 0,.ap,.ap,.ap,.int .i64 0,.int .i64 0]]);simp-implicitDefEqProofs(disch:=try exact af) only[vT,reduceAdd,reduceLeDiff,reduceIte,aw,d_];refine a6 (Gp (ag.rd.aK aV) (ag.cf.aK aV)) ?_;rintro _ bm ⟨rfl,aJ⟩;refine⟨aJ.1,?_⟩;have n2:=aJ.1;simp only[J.b2] at n2;have bB:=(aV.trans aJ).bX (.row false 4 [[.int .i64 (ar T s.at_).kind,.str (ar T s.at_).text,.int .i64 (ar T s.at_).n,.int .i64 (ar T s.at_).pos]]);have g2:=(aR.push bm (.row false 4 [[.int .i64 (ar T s.at_).kind,.str (ar T s.at_).text,.int .i64 (ar T s.at_).n,.int .i64 (ar T s.at_).pos]])).get (aJ.get (J.ca H (.row false 9 [[.int .i64 0,.str [],.str [],.int .i64 0,.ap,.ap,.ap,.int .i64 0,.int .i64 0]])))
 have g3:=J.ca bm (.row false 4 [[.int .i64 (ar T s.at_).kind,.str (ar T s.at_).text,.int .i64 (ar T s.at_).n,.int .i64 (ar T s.at_).pos]]);have e2:=ag.aK bB;simp only[xF,eW] at h;obtain⟨⟨aI,s1⟩,U,aa⟩:=h;simp only[bF,dw] at aa;obtain⟨rfl,rfl⟩:=aa;cases ah:((ar T s.at_).kind==3) with
 |false=>
  simp only[ah,bj,bF] at U;simp-implicitDefEqProofs(disch:=try exact af) only[vT,reduceAdd,reduceLeDiff,reduceIte,aw,d_,Tok.v,ah];refine KF ag (bB.mut _) e2.rd (k:=124) (λhK aS=> ?_) g2 g3 Z;have:=Pb aH aS;rw[U] at this;exact this
 |true=>
  simp only[ah,bC] at U;simp-implicitDefEqProofs(disch:=try exact af) only[vT,reduceAdd,reduceLeDiff,reduceIte,aw,d_,Tok.v,ah];refine a6 (acJ _) ?_;rintro _ dp ⟨rfl,rfl⟩;refine⟨(aR.push _ _).1,?_⟩;have c8:=aR.push (bm.push (.row false 4 [[.int .i64 (ar T s.at_).kind,.str (ar T s.at_).text,.int .i64 (ar T s.at_).n,.int .i64 (ar T s.at_).pos]])) (.map ud);have rM:=aky (ar T s.at_).text (J.ca (bm.push (.row false 4 [[.int .i64 (ar T s.at_).kind,.str (ar T s.at_).text,.int .i64 (ar T s.at_).n,.int .i64 (ar T s.at_).pos]])) (.map ud));have fg:=e2.aK c8;have X7:=c8.get g2;have H9:=c8.get g3;have m5:=(bB.trans c8).mut (· =r)
  have nJ:=fg.rd;unfold c7 at nJ;have aqZ:=fg.rd.lt;simp only[J.b2] at rM;have key:(∃k,j5 (ar T s.at_).text ud=fn k/\ ∀hK,c_ hK r T ak (aF s)->W (aq P ao k [.ptr r 0 0] hK) (gJ hK r T ak aI s1))\/(j5 (ar T s.at_).text ud= .nilFunc/\qH T s=(aI,s1)):=by
   by_cases t1:(ar T s.at_).text=[118,97,114]
   ·have ft:some (Cd T (aF s))=some (aI,s1):=by rw[<-U];simp[t1]
    refine .inl ⟨139,by rw[t1];rfl,λhK aS=> ?_⟩;have:=aby aS;rw[Option.some.inj ft] at this;exact this
   by_cases t2:(ar T s.at_).text=[108,101,116]
   ·have ft:some (Cj T (aF s))=some (aI,s1):=by rw[<-U];simp[t2]
    refine .inl ⟨140,by rw[t2];rfl,λhK aS=> ?_⟩;have:=abA aH aS;rw[Option.some.inj ft] at this;exact this
   by_cases t3:(ar T s.at_).text=[105,102]
   ·have ft:wR T n (aF s)=some (aI,s1):=by rw[<-U];simp[t3]
    exact .inl ⟨141,by rw[t3];rfl,λhK aS=>Ns aH aS _ _ ft⟩
   by_cases t4:(ar T s.at_).text=[119,104,105,108,101]
   ·have ft:wW T n (aF s)=some (aI,s1):=by rw[<-U];simp[t4]
    exact .inl ⟨142,by rw[t4];rfl,λhK aS=>AE aH aS _ _ ft⟩
   by_cases t5:(ar T s.at_).text=[114,101,116,117,114,110]
   ·have ft:some (xC T (aF s))=some (aI,s1):=by rw[<-U];simp[t5]
    refine .inl ⟨143,by rw[t5];rfl,λhK aS=> ?_⟩;have:=abC aH aS;rw[Option.some.inj ft] at this;exact this
   by_cases t6:(ar T s.at_).text=[112,114,105,110,116]
   ·have ft:some (BV T (aF s))=some (aI,s1):=by rw[<-U];simp[t6]
    refine .inl ⟨144,by rw[t6];rfl,λhK aS=> ?_⟩;have:=aaL aH aS;rw[Option.some.inj ft] at this;exact this
   have ft:some (qH T s)=some (aI,s1):=by rw[<-U];simp[hN t1,hN t2,hN t3,hN t4,hN t5,hN t6]
   exact .inr ⟨by simp[j5,ud,hN t1,hN t2,hN t3,hN t4,hN t5,hN t6],Option.some.inj ft⟩
  rcases key with⟨k,nI,aS⟩|⟨nI,C2⟩
  ·obtain⟨m6,M2⟩:=h5 fg.rd (aF s);simp-implicitDefEqProofs(disch:=try exact af) only[vT,reduceAdd,reduceLeDiff,reduceIte,aw,d_,H9,rM,nI,akE,Bool.and_self,nJ,de];exact KF ag (m5.trans m6) M2 aS (m6.get X7 Z) (m6.get H9 Z) Z
  ·simp-implicitDefEqProofs(disch:=try exact af) only[vT,reduceAdd,reduceLeDiff,reduceIte,aw,d_,H9,rM,nI,ahB,Bool.and_self];refine KF ag m5 fg.rd (k:=124) (λhK aS=> ?_) X7 H9 Z;have:=Pb aH aS;rw[C2] at this;exact this
theorem PP{H0 H:J}{r:Nat}{T:List Tok}{ak:I}{s0 s:aA}(bs:c_ H0 r T ak s0)(bP:cC r H0 H)(cp:c7 H r ak s){b lo:Nat}{a:dH}{es:List bp}{df bM:List cE}{ev bv fw:I}(U:dP H (bI lo) es ev)(aa:ez H (bI lo) df bv)(ae:ez H (bI lo) bM fw)(ko:H0.next<lo)
  (g2:H.get H0.next=some (.row false 9 [[.int .i64 0,.str [],.str [],.int .i64 0,.ap,.ap,.ap,.int .i64 0,.int .i64 0]])) (g3:H.get b=some (.row false 9 [a.cells ev bv fw])):W (y1 (aq P ao) (.ptr H0.next 0 0) (.ptr b 0 0) H) (gJ H0 r T ak (.mk a es df bM) s):=by
 have cR:=U.gi;have dd:=aa.gi;have dG:=ae.gi;have fA:=J.aX g2;simp only[dH.cells] at g3;simp-implicitDefEqProofs(disch:=try exact af) only[y1,reduceAdd,reduceLeDiff,reduceIte,aw,d_,g2,g3,cR,dd,dG];exact a_.2 (gJ.fin (a:=a) bs bP cp U aa ae (bN _) ko _)
theorem aaC{n:Nat}(aT:GF n):Ko (n+1):=by
 intro H r T ak s aH ag e s' h;refine cP (λ_=>ah_ 0) ?_;have az:=ag.rd.lt;have aV:=aR.push H (.row false 9 [[.int .i64 0,.str [],.str [],.int .i64 0,.ap,.ap,.ap,.int .i64 0,.int .i64 0]]);simp only[wR,eW] at h;obtain⟨⟨df,s1⟩,dQ,aa⟩:=h;simp-implicitDefEqProofs(disch:=try exact af) only[vU,reduceAdd,reduceLeDiff,reduceIte,aw,d_];refine a6 (yH aH (ag.aK aV)) ?_;rintro v bm ⟨m2,cJ,he⟩;refine⟨m2.1,?_⟩;have n2:=m2.1;simp only[J.b2] at n2;obtain⟨cs,rfl,bM,cR⟩:=he.cells;generalize eU T s=bc at cJ he dQ aa ⊢;have aM: ∀l,dK P l 96 1 [(0,.agg cs)]=some (.aN l 0 1 11 (some 1),.row false 11 [cs]):=λl=>jP l cs bM cR
 have g2:=m2.get (J.ca H (.row false 9 [[.int .i64 0,.str [],.str [],.int .i64 0,.ap,.ap,.ap,.int .i64 0,.int .i64 0]])) Z;simp-implicitDefEqProofs(disch:=try exact af) only[vU,reduceAdd,reduceLeDiff,reduceIte,aw,d_,aM];have bB:=aR.push bm (.row false 11 [cs]);refine a6 (aT aH (cJ.aK bB) df s1 dQ) ?_;rintro bv ct ⟨m4,fa,uE⟩;refine⟨m4.1,?_⟩;have mF:=m4.1;simp only[J.b2] at mF;have aoY:=cJ.rd.lt;have l0:ea bm (bI (H.next+1)) bc.1 (.agg cs):=by simpa only[J.b2] using he
 have wh:dP ct (bI (H.next+1)) [bc.1] (.aN bm.next 0 1 11 (some 1)):=(dP.made (r:=r) l0 (dC.refl _ bm) Z (lo:=H.next+1) Z Z).bo (e_.mut m4 (by unfold bI;omega) λ_ h=>h);have vN:ez ct (bI (H.next+1)) df bv:=uE.bo (fG.q4 λk ah=>by unfold bI at*;simp only[J.b2] at ah;omega);have nU:=vN.gi;have o_:cO P 98 [(0,.int .i64 5),(3,.aN bm.next 0 1 11 (some 1)),(4,bv)]=some (.agg (dH.cells {kind:=5} (.aN bm.next 0 1 11 (some 1)) bv .ap)):=by
  rcases vN with⟨rfl,_⟩|⟨l,i,cap,ro,els,rfl,_⟩|⟨l,i,cap,rfl,_⟩<;>kernel_rfl
 have g4:=m4.get (bB.get g2) Z;have bP:=(((aV.mut (· =r)).trans m2).bX (.row false 11 [cs])).trans m4;simp only[dH.cells] at o_;simp-implicitDefEqProofs(disch:=try exact af) only[vU,reduceAdd,reduceLeDiff,reduceIte,aw,d_,o_,nU];have c8:=aR.push ct (.row false 9 [dH.cells {kind:=5} (.aN bm.next 0 1 11 (some 1)) bv .ap]);refine a6 (Pc (fa.aK c8) 3 [101,108,115,101]) ?_;rintro _ fW ⟨rfl,m6,hO⟩;refine⟨m6.1,?_⟩;have YT:=fa.rd.lt;have h7:=J.aX g4;have g6:=m6.get (c8.get g4) Z;have gI:=m6.get (J.ca ct (.row false 9 [dH.cells {kind:=5} (.aN bm.next 0 1 11 (some 1)) bv .ap])) Z;have Fw:=(bP.bX (.row false 9 [dH.cells {kind:=5} (.aN bm.next 0 1 11 (some 1)) bv .ap])).trans m6
 have j0:fG ct (bI (H.next+1)) fW (bI (H.next+1)):=fG.mut ((c8.mut _).trans m6) (by unfold bI;omega) λ_ h=>h
 cases be:b7 T s1 3 [101,108,115,101] with
 |false=>
  rw[show fj T 3 [101,108,115,101] s1=(false,s1) by simp[fj,be]] at hO ⊢;simp only[be,bj,bF,dw] at aa;obtain⟨rfl,rfl⟩:=aa;simp-implicitDefEqProofs(disch:=try exact af) only[vU,reduceAdd,reduceLeDiff,reduceIte,aw,d_];exact PP ag Fw hO.rd (wh.bo j0.ex) (vN.bo j0) (ez.nil _ _) Z g6 gI
 |true=>
  rw[show fj T 3 [101,108,115,101] s1=(true,aF s1) by simp[fj,be]] at hO ⊢;simp only[be,bC,eW] at aa;obtain⟨⟨cU,s2⟩,ck,ae⟩:=aa;simp only[bF,dw] at ae;obtain⟨rfl,rfl⟩:=ae;simp-implicitDefEqProofs(disch:=try exact af) only[vU,reduceAdd,reduceLeDiff,reduceIte,aw,d_];refine a6 (aT aH hO cU s2 ck) ?_;rintro fw jX ⟨m8,oF,hr⟩;refine⟨m8.1,?_⟩;have YU:=hO.rd.lt;have FX:=J.aX gI;have g8:=m8.get g6 Z;have Ba:=m8.get gI Z;have aoX:=J.aX Ba;have A8:=m6.1;simp only[J.b2] at A8;have Zr:=m8.1;have Jb:=hr.gi;have ao7:=Ba;simp only[dH.cells] at ao7;have WI:fG ct (bI (H.next+1)) jX (bI (H.next+1)):=fG.mut (((c8.mut _).trans m6).trans m8) (by unfold bI;omega) λ_ h=>h
  have apW:=wh.bo WI.ex;have apU:=vN.bo WI;have sg:aQ P jX 44 (.ptr ct.next 0 6) fw=some (jX.set ct.next (.row false 9 [dH.cells {kind:=5} (.aN bm.next 0 1 11 (some 1)) bv fw])):=by
   rw[Lr CJ Ba rfl (by rw[kb Jb];rfl) (by rw[kb Jb,List.all_cons,Jb];rfl) cm,kb Jb];rfl
  simp-implicitDefEqProofs(disch:=try exact af) only[vU,bg,bL,fH,Nat.zero_add];rw[sg,lz (by simp only[J.e9];omega)];have N0: ∀hj,fG jX (λl=>H.next+1<=l/\l≠ct.next) (jX.set ct.next hj) (bI (H.next+1)):=λhj=>fG.set _ (by simp) λl h=>h.1
  have Yd:fG ct (λl=>H.next+1<=l/\l<ct.next) jX (λl=>H.next+1<=l/\l≠ct.next):=fG.mut (((c8.mut _).trans m6).trans m8) Z λl h=>⟨h.1,Z⟩
  have fV:fG ct (bI (H.next+1)) ct (λl=>H.next+1<=l/\l<ct.next):=⟨λl ro els h g=>⟨⟨h,J.aX g⟩,g⟩,λl ro els h g=>⟨⟨h,J.aX g⟩,g⟩⟩;refine PP ag (H:=jX.set ct.next (.row false 9 [dH.cells {kind:=5} (.aN bm.next 0 1 11 (some 1)) bv fw])) ((Fw.trans m8).db (.inr Z) _) ?_ (((wh.bo fV.ex).bo Yd.ex).bo (N0 _).ex) (((vN.bo fV).bo Yd).bo (N0 _)) ((hr.bo (fG.q4 (ok':=λl=>H.next+1<=l/\l≠ct.next) λk ah=>by unfold bI at ah;omega)).bo (N0 _)) (Nat.lt_succ_self _) ?_ (J.get_set_same aoX)
  ·have Fg:=oF.rd;unfold c7 at Fg ⊢;rw[J.get_set_other Z];exact Fg
  ·rw[J.get_set_other Z];exact g8
theorem aaY{n:Nat}(aT:GF n):Kq (n+1):=by
 intro H r T ak s aH ag e s' h;refine cP (λ_=>aia 0) ?_;have az:=ag.rd.lt;have aV:=aR.push H (.row false 9 [[.int .i64 0,.str [],.str [],.int .i64 0,.ap,.ap,.ap,.int .i64 0,.int .i64 0]]);simp only[wW,eW] at h;obtain⟨⟨df,s1⟩,dQ,aa⟩:=h;simp only[bF,dw] at aa;obtain⟨rfl,rfl⟩:=aa;simp-implicitDefEqProofs(disch:=try exact af) only[CD,reduceAdd,reduceLeDiff,reduceIte,aw,d_];refine a6 (yH aH (ag.aK aV)) ?_;rintro v bm ⟨m2,cJ,he⟩;refine⟨m2.1,?_⟩;have n2:=m2.1;simp only[J.b2] at n2;obtain⟨cs,rfl,bM,cR⟩:=he.cells;generalize eU T s=bc at cJ he dQ ⊢;have aM: ∀l,dK P l 96 1 [(0,.agg cs)]=some (.aN l 0 1 11 (some 1),.row false 11 [cs]):=λl=>jP l cs bM cR
 have g2:=m2.get (J.ca H (.row false 9 [[.int .i64 0,.str [],.str [],.int .i64 0,.ap,.ap,.ap,.int .i64 0,.int .i64 0]])) Z;simp-implicitDefEqProofs(disch:=try exact af) only[CD,reduceAdd,reduceLeDiff,reduceIte,aw,d_,aM];have bB:=aR.push bm (.row false 11 [cs]);refine a6 (aT aH (cJ.aK bB) df s1 dQ) ?_;rintro bv ct ⟨m4,fa,uE⟩;refine⟨m4.1,?_⟩;have mF:=m4.1;simp only[J.b2] at mF;have aoY:=cJ.rd.lt;have l0:ea bm (bI (H.next+1)) bc.1 (.agg cs):=by simpa only[J.b2] using he
 have wh:dP ct (bI (H.next+1)) [bc.1] (.aN bm.next 0 1 11 (some 1)):=(dP.made (r:=r) l0 (dC.refl _ bm) Z (lo:=H.next+1) Z Z).bo (e_.mut m4 (by unfold bI;omega) λ_ h=>h);have vN:ez ct (bI (H.next+1)) df bv:=uE.bo (fG.q4 λk ah=>by unfold bI at*;simp only[J.b2] at ah;omega);have nU:=vN.gi;have o_:cO P 98 [(0,.int .i64 6),(3,.aN bm.next 0 1 11 (some 1)),(4,bv)]=some (.agg (dH.cells {kind:=6} (.aN bm.next 0 1 11 (some 1)) bv .ap)):=by
  rcases vN with⟨rfl,_⟩|⟨l,i,cap,ro,els,rfl,_⟩|⟨l,i,cap,rfl,_⟩<;>kernel_rfl
 have g4:=m4.get (bB.get g2) Z;have h7:=J.aX g4;simp only[dH.cells] at o_;simp-implicitDefEqProofs(disch:=try exact af) only[CD,reduceAdd,reduceLeDiff,reduceIte,aw,d_,o_,nU,g4];exact a_.2 (gJ.fin (a:={kind:=6}) ag ((((aV.mut _).trans m2).bX _).trans m4) fa.rd wh vN (ez.nil _ _) (bN _) (Nat.lt_succ_self _) _)
structure al9(n:Nat):Prop where
 stmt:D0 n
 block:GF n
 choose:Ko n
 rep:Kq n
theorem amc: ∀n,n<=900000000->al9 n:=by
 intro n
 induction n using Nat.strongRecOn with
 |_ n aT=>
  intro aU;cases n with
  |zero=>exact⟨λ_ _ _ _ h=>by simp[xF] at h,λ_ _ _ _ h=>by simp[oN] at h,λ_ _ _ _ h=>by simp[wR] at h,λ_ _ _ _ h=>by simp[wW] at h⟩
  |succ n=>
   have i:=aT n Z Z;exact⟨aeH i.choose i.rep,abi Z λk ah=>(aT k Z Z).stmt,aaC i.block,aaY i.block⟩
end
section
theorem afN(ak:I)(U:ak.one=true)(a b:Int):cO P 112 [(0,ak),(1,.int .i64 a),(2,.int .i64 b)]=some (.agg [ak,.int .i64 a,.int .i64 b,.int .i64 0,.int .i64 0]):=by
 cases ak<;>first|(cases U;done)|kernel_rfl
theorem aaK{n:Nat}(aU:n<=900000000){H:J}{T:List Tok}{ak:I}(aH:T.length<=20000000)(bz:ih H ak T)(at_ bR:Int){l:List cE}{s':aA}(h:oN T n (lI at_ bR)=some (l,s')):
  W (aq P ao 55 [ak,.int .i64 at_,.int .i64 bR] H) λv H'=> ∃bv,v= .tuple [bv,.int .i64 (iQ l s').2.1,.agg [.int .i64 (iQ l s').2.2.1,.int .i64 (iQ l s').2.2.2]]/\ez H' (bI H.next) (iQ l s').1 bv/\aR H H':=by
 refine cP (λ_=>alo 0) ?_;have de:=bz.one;have aV:=aR.push H (.row false 2 [[.int .i64 0,.int .i64 0]]);have o_:=afN ak de at_ (if bR<0 then 0 else bR);have ij: ∀l,eK l (.agg [ak,.int .i64 at_,.int .i64 (if bR<0 then 0 else bR),.int .i64 0,.int .i64 0])=some (.ptr l 0 0,.row false 5 [[ak,.int .i64 at_,.int .i64 (if bR<0 then 0 else bR),.int .i64 0,.int .i64 0]]):=λl=>h8 l _ (by simp only[List.all_cons,List.all_nil,iF,de,Bool.and_self])
 simp-implicitDefEqProofs(disch:=try exact af) only[AP,reduceAdd,reduceLeDiff,reduceIte,aw,YV,o_,ij];have uD:=J.ca H (.row false 2 [[.int .i64 0,.int .i64 0]]);have Nb:(H.push (.row false 2 [[.int .i64 0,.int .i64 0]])).next=H.next+1:=by simp only[J.b2]
 rw[<-Nb];generalize H.push (.row false 2 [[.int .i64 0,.int .i64 0]])=cT at aV uD Nb ⊢;have bK:=aR.push cT (.row false 5 [[ak,.int .i64 at_,.int .i64 (if bR<0 then 0 else bR),.int .i64 0,.int .i64 0]]);have c8:=aV.trans bK;have fa:c_ (cT.push (.row false 5 [[ak,.int .i64 at_,.int .i64 (if bR<0 then 0 else bR),.int .i64 0,.int .i64 0]])) cT.next T ak (lI at_ bR):=
  ⟨J.ca _ _,bz.aK c8⟩
 refine a6 ((amc n aU).block aH fa l s' h) ?_;rintro v dp ⟨m5,fg,pa⟩;refine⟨m5.1,?_⟩;have ye:=m5.1;simp only[J.b2] at ye pa;simp-implicitDefEqProofs(disch:=try exact af) only[AP,reduceAdd,reduceLeDiff,reduceIte,aw];refine a6 (Bf fg.rd) ?_;rintro _ jX ⟨rfl,rfl⟩;refine⟨bN _,?_⟩;have nJ:=fg.rd;unfold c7 at nJ;have sU:=m5.get (bK.get uD) Z;have N1:=J.aX sU;have ni:aR H jX:=⟨by have:=c8.1;simp only[J.b2] at this;omega,λl az=>by rw[m5.2 l (by simp only[J.b2];omega) Z];exact c8.2 l az⟩;by_cases al:s'.aC=0
 ·have e1:(s'.aC != 0)=false:=by simpa using al
  rw[show iQ l s'=(l,s'.at_,0,0) by simp[iQ,al]];simp-implicitDefEqProofs(disch:=try exact af) only[AP,reduceAdd,reduceLeDiff,reduceIte,aw,e1,nJ,sU];refine a_.2 ⟨_,rfl,pa.bo (fG.set _ (by unfold bI;omega) λl h=>by unfold bI at*;omega),ni.db Z _⟩
 ·have e1:(s'.aC != 0)=true:=by simpa using al
  rw[show iQ l s'=([],0,s'.aC,s'.cv) by simp[iQ,al]];simp-implicitDefEqProofs(disch:=try exact af) only[AP,reduceAdd,reduceLeDiff,reduceIte,aw,e1,nJ,sU];exact a_.2 ⟨_,rfl,ez.nil _ _,ni.db Z _⟩
end
section
set_option maxRecDepth 100000
noncomputable section
def zO(G:av)(N:Nat)(an ay bu:I)(H:J):O:=
 aO H (G 17 [bu] H) λhB U=>
 bO (some hB) (a7 U (aQ P U 26 an (.agg [I.ap,I.ap,I.ap])) λaa=>
 ab (b5 bu) λix=>
 ab (aE P 55 ix 3) λhQ=>
 ab (aj P aa 29 hQ) λgk=>
 a7 aa (aQ P aa 29 ay gk) λae=>
 bif ((cj (aj P U 29 hQ) gk&&(cj (aj P aa 29 hQ) gk&&true))&&true) then(ab (aj P ae 26 an) λr=>
 ab (aj P ae 29 ay) λmz=>
 some (.tuple [r,mz],ae)) else none) (ab (b5 bu) λjV=>
 ab (aE P 55 jV 2) λj_=>
 ab (aj P U 26 j_) λlr=>
 a7 U (aQ P U 26 an lr) λaa=>
 a7 aa (aQ P aa 29 ay (.agg [(.int .i64 0),(.int .i64 0)])) λae=>
 ab (aj P ae 26 an) λr=>
 ab (aj P ae 29 ay) λmz=>
 some (.tuple [r,mz],ae))
theorem afq(G:av)(N:Nat): ∀R H,cw P G N (Code.snd (Code.snd (Code.snd (Code.snd (Code.snd (c6 Tryz.f8)))))) (bY Tryz.f8) [] (bY Tryz.f8) R H=zO G N (R 2) (R 3) (R 6) H:=by
 refine dj (aL _) λR H=> ?_
 delta zO;kernel_rfl
def Hr(G:av)(N:Nat)(bD:I->I->I->J->O)(an ay bu:I)(H:J):O:=
 aO H (G 17 [bu] H) λcx U=>
 ab (eY .not cx) λcz=>
 aD cz true U (di bu) λc1 aa=>
 aD cz true aa (λq=>fk aa (G 18 [c1] aa) q) λdn ae=>
 aD cz true ae (bh (d8 P 57 dn 0)) λdt am=>
 aD cz true am (bh (aW P .neq 3 true dt (.int .i64 0))) λdc aB=>
 ab (cX cz (some dc) (some (.bool false))) λdT=>
 bO (some dT) (aO aB (G 19 [bu,(.int .i64 3),(.str [114,101,99,111,114,100])] aB) λei aG=>
 bO (some ei) (aO aG (G 20 [bu] aG) λej aP=>
 bD an ay bu aP) (aO aG (G 19 [bu,(.int .i64 3),(.str [103,108,111,98,97,108])] aG) λfo aP=>
 bO (some fo) (aO aP (G 21 [bu] aP) λfi bq=>
 bD an ay bu bq) (aO aP (G 19 [bu,(.int .i64 3),(.str [102,117,110,99])] aP) λgM bq=>
 bO (some gM) (aO bq (G 22 [bu] bq) λgR bJ=>
 bD an ay bu bJ) (aO bq (G 23 [bu,(.int .i64 2)] bq) λcF bJ=>
 bD an ay bu bJ)))) (zO G N an ay bu aB)
def zP(G:av)(N:Nat):Nat->I->I->I->J->O
 |0,_,_,_,_=>none
 |n+1,an,ay,bu,H=>Hr G N (zP G N n) an ay bu H
theorem afp(G:av)(N:Nat)(bD:I->I->I->J->O): ∀R H,cw P G N (Code.fst (Code.fst (Code.fst (Code.snd (Code.snd (Code.snd (Code.snd (c6 Tryz.f8)))))))) (λR H=>bD (R 2) (R 3) (R 6) H) [(0,(λR H=>zO G N (R 2) (R 3) (R 6) H))] (bY Tryz.f8) R H=Hr G N bD (R 2) (R 3) (R 6) H:=by
 refine dj (aL _) λR H=> ?_
 delta Hr;generalize zO G N=a1;revert a1;refine id ?_;intro a1;kernel_rfl
def Jd(G:av)(N:Nat)(Y:I)(H:J):O:=
 cy H [I.ap,I.ap,I.ap] λan U=>
 cy U [(.int .i64 0),(.int .i64 0)] λay aa=>
 aO aa (G 16 [Y] aa) λbE ae=>
 ab (gT bE 0) λcq=>
 ab (gT bE 1) λb1=>
 cy ae [(.int .i64 0),(.int .i64 0)] λbb am=>
 a7 am (aQ P am 29 bb b1) λaB=>
 ab (aE P 29 bb 0) λcb=>
 ab (aj P aB 27 cb) λb6=>
 ab (aW P .neq 27 true b6 (.int .i64 0)) λbT=>
 bO (some bT) (a7 aB (aQ P aB 26 an (.agg [I.ap,I.ap,I.ap])) λaG=>
 ab (aj P aG 29 bb) λbG=>
 a7 aG (aQ P aG 29 ay bG) λaP=>
 bif ((cj (aj P aB 29 bb) bG&&(cj (aj P aG 29 bb) bG&&true))&&true) then(ab (aj P aP 26 an) λr=>
 ab (aj P aP 29 ay) λmz=>
 some (.tuple [r,mz],aP)) else none) (ab (cO P 55 [(0,cq)]) λcK=>
 dv aB (eK (aB).next cK) λcM aG=>
 zP G N N an ay cM aG)
theorem al0(G:av)(N:Nat)(Y:I)(H:J):bn Tryz.f8 G N (cB [Y]) H=Jd G N Y H:=by
 refine cL (A:=bn Tryz.f8 G N) ((bk ad ((bk ad ((bk ad ((bk ad ((bk ad (afq G N) ((fy ad ((gg (k:=λm R H=>zP G N m (R 2) (R 3) (R 6) H) ad (λR H=>ad) (λm=>afp G N (zP G N m)))))))) (aL _))) (aL _))) (aL _))) (aL _))) ?_;delta Jd;generalize zP G N N=a1;revert a1;refine id ?_;intro a1;kernel_rfl
theorem ang(N:Nat){Y:I}{H:J}{r:I×J}(h:Jd (aq P ao) N Y H=some r):aq P ao 8 [Y] H=some r:=
 cQ ad Tryz.func8 ad ad ad ((al0 (aq P ao) N Y H).trans h)
def Ix(G:av)(Y:I)(H:J):O:=
 ab (b5 Y) λba=>
 ab (aE P 55 ba 3) λbb=>
 ab (aE P 29 bb 0) λbu=>
 ab (aj P H 27 bu) λbx=>
 ab (aW P .neq 27 true bx (.int .i64 0)) λbS=>
 some (bS,H)
theorem aiM(G:av)(N:Nat)(Y:I)(H:J):bn Tryz.f17 G N (cB [Y]) H=Ix G Y H:=by
 refine cL (A:=bn Tryz.f17 G N) (aL _) ?_;delta Ix;kernel_rfl
theorem akP(N:Nat){Y:I}{H:J}{r:I×J}(h:Ix (aq P ao) Y H=some r):aq P ao 17 [Y] H=some r:=
 cQ ad Tryz.func17 ad ad ad ((aiM (aq P ao) N Y H).trans h)
def Iy(G:av)(Y:I)(H:J):O:=
 cy H [(.int .i64 0),(.str []),(.int .i64 0),(.int .i64 0)] λan U=>
 ab (b5 Y) λba=>
 ab (aE P 55 ba 0) λbb=>
 ab (aj P U 50 bb) λbu=>
 ab (b5 Y) λbS=>
 ab (aE P 55 bS 1) λbE=>
 ab (aj P U 3 bE) λcq=>
 ab (b5 Y) λcb=>
 ab (aE P 55 cb 0) λb6=>
 ab (aj P U 50 b6) λbT=>
 iu (dF P .empty .len [50] [bT]) (dF P U .len [50] [bT]) λeQ=>
 ab (aW P .sub 3 true eQ.val (.int .i64 1)) λbG=>
 iu (dF P .empty .min [3,3] [cq,bG]) (dF P (eQ.heap U) .min [3,3] [cq,bG]) λfN=>
 ab (dS P 50 bu fN.val) λcK=>
 ab (aj P (fN.heap (eQ.heap U)) 57 cK) λcM=>
 FN (fN.heap (eQ.heap U)) (aQ P (fN.heap (eQ.heap U)) 57 an cM) λy aa=>
 bif oW [0,1,3,7,0,16,48,112,0,256,768,1792,3840,7936,16368,32767,65535,131071] [0,1,2,3,4,5,6,7,8,9,10,11,12,13,14,15,16,17] [⟨0,(.pure Y),λH=>none⟩,⟨1,(.pure ba),λH=>none⟩,⟨2,(.pure bb),λH=>none⟩,⟨3,(.read bu),λH=>aj P H 50 bb⟩,⟨4,(.pure Y),λH=>none⟩,⟨5,(.pure bS),λH=>none⟩,⟨6,(.pure bE),λH=>none⟩,⟨7,(.read cq),λH=>aj P H 3 bE⟩,⟨8,(.pure Y),λH=>none⟩,⟨9,(.pure cb),λH=>none⟩,⟨10,(.pure b6),λH=>none⟩,⟨11,(.read bT),λH=>aj P H 50 b6⟩,⟨12,eQ,λH=>dF P H .len [50] [bT]⟩,⟨13,(.pure bG),λH=>none⟩,⟨14,fN,λH=>dF P H .min [3,3] [cq,bG]⟩,⟨15,(.pure cK),λH=>none⟩,⟨16,(.read cM),λH=>aj P H 57 cK⟩,⟨17,(.hx y aa),λH=>none⟩] U then(ab (aj P aa 57 an) λr=>
 some (r,aa)) else none
theorem aiN(G:av)(N:Nat)(Y:I)(H:J):bn Tryz.f18 G N (cB [Y]) H=Iy G Y H:=by
 refine cL (A:=bn Tryz.f18 G N) (aL _) ?_;delta Iy;kernel_rfl
theorem akQ(N:Nat){Y:I}{H:J}{r:I×J}(h:Iy (aq P ao) Y H=some r):aq P ao 18 [Y] H=some r:=
 cQ ad Tryz.func18 ad ad ad ((aiN (aq P ao) N Y H).trans h)
def Iz(G:av)(Y ai an:I)(H:J):O:=
 aO H (G 18 [Y] H) λbE U=>
 cy U [(.int .i64 0),(.str []),(.int .i64 0),(.int .i64 0)] λbx aa=>
 a7 aa (aQ P aa 57 bx bE) λae=>
 aO ae (G 17 [Y] ae) λb1 am=>
 ab (eY .not b1) λcb=>
 aD cb true am (bh (aE P 57 bx 0)) λbT aB=>
 aD cb true aB (qr (aj P aB 3 bT)) λbW aG=>
 aD cb true aG (di ai) λbG aP=>
 aD cb true aP (bh (aW P .eql 3 false bW bG)) λcc bq=>
 ab (cX cb (some cc) (some (.bool false))) λcK=>
 aD cK true bq (bh (aE P 57 bx 1)) λcA bJ=>
 aD cK true bJ (qr (aj P bJ 9 cA)) λcx co=>
 aD cK true co (di an) λcz ds=>
 aD cK true ds (bh (aW P .eql 9 false cx cz)) λcH dV=>
 ab (cX cK (some cH) (some (.bool false))) λc1=>
 some (c1,dV)
theorem aiO(G:av)(N:Nat)(Y:I)(ai:I)(an:I)(H:J):bn Tryz.f19 G N (cB [Y,ai,an]) H=Iz G Y ai an H:=by
 refine cL (A:=bn Tryz.f19 G N) (aL _) ?_;delta Iz;kernel_rfl
theorem akR(N:Nat){Y ai an:I}{H:J}{r:I×J}(h:Iz (aq P ao) Y ai an H=some r):aq P ao 19 [Y,ai,an] H=some r:=
 cQ ad Tryz.func19 ad ad ad ((aiO (aq P ao) N Y ai an H).trans h)
def zk(G:av)(N:Nat)(Y ay:I)(H:J):O:=
 aO H (G 50 [Y,(.str [125])] H) λj_ U=>
 ab (b5 Y) λkR=>
 ab (aE P 55 kR 2) λl5=>
 ab (aE P 26 l5 0) λjW=>
 ab (aj P U 22 jW) λoH=>
 ab (aj P U 41 ay) λiV=>
 dv U (dK P (U).next 22 1 [(0,iV)]) λl6 aa=>
 aO aa (fQ P aa [22,22] oH l6) λnM ae=>
 ab (b5 Y) λkS=>
 ab (aE P 55 kS 2) λl7=>
 ab (aE P 26 l7 0) λnb=>
 a7 ae (aQ P ae 22 nb nM) λam=>
 bif ((cj (aj P U 22 jW) oH&&(cj (aj P aa 22 jW) oH&&true))&&true) then(some (.tuple [],am)) else none
theorem adB(G:av)(N:Nat): ∀R H,cw P G N (Code.snd (Code.snd (Code.snd (Code.snd (Code.snd (Code.snd (c6 Tryz.f20))))))) (bY Tryz.f20) [] (bY Tryz.f20) R H=zk G N (R 0) (R 3) H:=by
 refine dj (aL _) λR H=> ?_
 delta zk;kernel_rfl
def G1(G:av)(N:Nat)(bD:I->I->J->O)(Y ay:I)(H:J):O:=
 aO H (G 17 [Y] H) λdJ U=>
 ab (eY .not dJ) λcF=>
 aD cF true U (di Y) λdy aa=>
 aD cF true aa (λq=>fk aa (G 19 [dy,(.int .i64 4),(.str [125])] aa) q) λei ae=>
 aD cF true ae (bh (eY .not ei)) λfh am=>
 ab (cX cF (some fh) (some (.bool false))) λej=>
 bO (some ej) (aO am (G 18 [Y] am) λfo aB=>
 ab (d8 P 57 fo 0) λfv=>
 ab (aW P .eql 3 true fv (.int .i64 1)) λfi=>
 ab (aE P 41 ay 1) λfU=>
 ab (aj P aB 23 fU) λgb=>
 iu (dF P .empty .len [23] [gb]) (dF P aB .len [23] [gb]) λeQ=>
 aO (eQ.heap aB) (G 48 [Y,fi,eQ.val,(.int .i64 8)] (eQ.heap aB)) λe4 aG=>
 bif oW [0,0,2,6,14,0,32,96,255] [1,2,3,4,8] [⟨1,(.pure Y),λH=>none⟩,⟨2,(.hx fo aB),λH=>none⟩,⟨0,(.pure Y),λH=>none⟩,⟨3,(.pure fv),λH=>none⟩,⟨4,(.pure fi),λH=>none⟩,⟨5,(.pure fU),λH=>none⟩,⟨6,(.read gb),λH=>aj P H 23 fU⟩,⟨7,eQ,λH=>dF P H .len [23] [gb]⟩,⟨8,(.hx e4 aG),λH=>none⟩] am then(aO aG (G 51 [Y] aG) λjy aP=>
 ab (aE P 41 ay 1) λgR=>
 ab (aj P aP 23 gR) λgB=>
 dv aP (dK P (aP).next 23 1 [(0,jy)]) λh6 bq=>
 aO bq (fQ P bq [23,23] gB h6) λix bJ=>
 ab (aE P 41 ay 1) λhQ=>
 a7 bJ (aQ P bJ 23 hQ ix) λco=>
 bif ((cj (aj P aG 23 gR) gB&&(cj (aj P aP 23 gR) gB&&(cj (aj P bq 23 gR) gB&&true)))&&true) then(aO co (G 50 [Y,(.str [59])] co) λjU ds=>
 bD Y ay ds) else none) else none) (zk G N Y ay am)
def zl(G:av)(N:Nat):Nat->I->I->J->O
 |0,_,_,_=>none
 |n+1,Y,ay,H=>G1 G N (zl G N n) Y ay H
theorem adA(G:av)(N:Nat)(bD:I->I->J->O): ∀R H,cw P G N (Code.fst (Code.fst (Code.fst (Code.snd (Code.snd (Code.snd (Code.snd (Code.snd (c6 Tryz.f20))))))))) (λR H=>bD (R 0) (R 3) H) [(0,(λR H=>zk G N (R 0) (R 3) H))] (bY Tryz.f20) R H=G1 G N bD (R 0) (R 3) H:=by
 refine dj (aL _) λR H=> ?_
 delta G1;generalize zk G N=a1;revert a1;refine id ?_;intro a1;kernel_rfl
def IA(G:av)(N:Nat)(Y:I)(H:J):O:=
 ab (b5 Y) λbu=>
 ab (aE P 55 bu 2) λbx=>
 ab (aE P 26 bx 0) λbS=>
 ab (aj P H 22 bS) λbE=>
 bg P .len [22] [bE] H λcq=>
 aO H (G 48 [Y,(.bool true),cq,(.int .i64 12)] H) λb1 U=>
 ab (b5 Y) λb6=>
 ab (aE P 55 b6 1) λbT=>
 ab (aj P U 3 bT) λbW=>
 ab (aW P .add 3 true bW (.int .i64 1)) λbG=>
 ab (b5 Y) λcc=>
 ab (aE P 55 cc 1) λcK=>
 a7 U (aQ P U 3 cK bG) λaa=>
 aO aa (G 49 [Y] aa) λcA ae=>
 cy ae [(.int .i64 0),(.str []),(.int .i64 0),(.int .i64 0)] λan am=>
 a7 am (aQ P am 57 an cA) λaB=>
 ab (aE P 57 an 1) λcx=>
 ab (aj P aB 9 cx) λcz=>
 ab (aE P 57 an 3) λcH=>
 ab (aj P aB 3 cH) λc1=>
 ab (cO P 41 [(0,cz),(2,c1)]) λdn=>
 cy aB [(.str []),I.ap,(.int .i64 0)] λay aG=>
 a7 aG (aQ P aG 41 ay dn) λaP=>
 aO aP (G 50 [Y,(.str [123])] aP) λdc bq=>
 zl G N N Y ay bq
theorem aiP(G:av)(N:Nat)(Y:I)(H:J):bn Tryz.f20 G N (cB [Y]) H=IA G N Y H:=by
 refine cL (A:=bn Tryz.f20 G N) ((bk ad ((bk ad ((bk ad ((bk ad ((bk ad ((bk ad (adB G N) ((fy ad ((gg (k:=λm R H=>zl G N m (R 0) (R 3) H) ad (λR H=>ad) (λm=>adA G N (zl G N m)))))))) (aL _))) (aL _))) (aL _))) (aL _))) (aL _))) ?_;delta IA;generalize zl G N N=a1;revert a1;refine id ?_;intro a1;kernel_rfl
theorem akS(N:Nat){Y:I}{H:J}{r:I×J}(h:IA (aq P ao) N Y H=some r):aq P ao 20 [Y] H=some r:=
 cQ ad Tryz.func20 ad ad ad ((aiP (aq P ao) N Y H).trans h)
def IB(G:av)(Y:I)(H:J):O:=
 ab (b5 Y) λbb=>
 ab (aE P 55 bb 2) λbu=>
 ab (aE P 26 bu 1) λbx=>
 ab (aj P H 23 bx) λbS=>
 bg P .len [23] [bS] H λbE=>
 aO H (G 48 [Y,(.bool true),bE,(.int .i64 8)] H) λcq U=>
 ab (b5 Y) λcb=>
 ab (aE P 55 cb 1) λb6=>
 ab (aj P U 3 b6) λbT=>
 ab (aW P .add 3 true bT (.int .i64 1)) λbW=>
 ab (b5 Y) λbG=>
 ab (aE P 55 bG 1) λcc=>
 a7 U (aQ P U 3 cc bW) λaa=>
 aO aa (G 51 [Y] aa) λcM ae=>
 cy ae [(.str []),(.str []),(.int .i64 0),(.int .i64 0)] λan am=>
 a7 am (aQ P am 66 an cM) λaB=>
 aO aB (G 50 [Y,(.str [59])] aB) λcx aG=>
 ab (b5 Y) λc1=>
 ab (aE P 55 c1 2) λdn=>
 ab (aE P 26 dn 1) λdt=>
 ab (aj P aG 23 dt) λdc=>
 ab (aj P aG 66 an) λdT=>
 dv aG (dK P (aG).next 23 1 [(0,dT)]) λdJ aP=>
 aO aP (fQ P aP [23,23] dc dJ) λcF bq=>
 ab (b5 Y) λeC=>
 ab (aE P 55 eC 2) λdy=>
 ab (aE P 26 dy 1) λei=>
 a7 bq (aQ P bq 23 ei cF) λbJ=>
 bif ((cj (aj P aG 23 dt) dc&&(cj (aj P aP 23 dt) dc&&true))&&true) then(some (.tuple [],bJ)) else none
theorem aiQ(G:av)(N:Nat)(Y:I)(H:J):bn Tryz.f21 G N (cB [Y]) H=IB G Y H:=by
 refine cL (A:=bn Tryz.f21 G N) (aL _) ?_;delta IB;kernel_rfl
theorem akT(N:Nat){Y:I}{H:J}{r:I×J}(h:IB (aq P ao) Y H=some r):aq P ao 21 [Y] H=some r:=
 cQ ad Tryz.func21 ad ad ad ((aiQ (aq P ao) N Y H).trans h)
def zm(G:av)(N:Nat)(Y ay:I)(H:J):O:=
 aO H (G 17 [Y] H) λh6 U=>
 bO (some h6) (some (.tuple [],U)) (ab (b5 Y) λgk=>
 ab (aE P 55 gk 0) λjU=>
 ab (aj P U 50 jU) λjV=>
 ab (b5 Y) λlr=>
 ab (aE P 55 lr 1) λsj=>
 ab (aj P U 3 sj) λkR=>
 aO U (G 55 [jV,kR,(.int .i64 0)] U) λl5 aa=>
 ab (gT l5 0) λjW=>
 ab (gT l5 1) λoH=>
 ab (gT l5 2) λiV=>
 cy aa [(.int .i64 0),(.int .i64 0)] λbu ae=>
 a7 ae (aQ P ae 29 bu iV) λam=>
 bif ((cj (aj P U 50 jU) jV&&true)&&((cj (aj P U 3 sj) kR&&true)&&true)) then(ab (aj P am 29 bu) λkS=>
 aO am (G 56 [Y,oH,kS] am) λl7 aB=>
 ab (aE P 46 ay 4) λfD=>
 a7 aB (aQ P aB 44 fD jW) λaG=>
 ab (b5 Y) λnN=>
 ab (aE P 55 nN 2) λph=>
 ab (aE P 26 ph 2) λnc=>
 ab (aj P aG 24 nc) λnO=>
 ab (aj P aG 46 ay) λww=>
 dv aG (dK P (aG).next 24 1 [(0,ww)]) λqf aP=>
 aO aP (fQ P aP [24,24] nO qf) λuR bq=>
 ab (b5 Y) λAU=>
 ab (aE P 55 AU 2) λuS=>
 ab (aE P 26 uS 2) λqg=>
 a7 bq (aQ P bq 24 qg uR) λbJ=>
 bif ((cj (aj P aG 24 nc) nO&&(cj (aj P aP 24 nc) nO&&true))&&true) then(some (.tuple [],bJ)) else none) else none)
theorem adE(G:av)(N:Nat): ∀R H,cw P G N (Code.snd (Code.snd (Code.snd (Code.snd (Code.snd (Code.snd (Code.snd (Code.snd (c6 Tryz.f22))))))))) (bY Tryz.f22) [] (bY Tryz.f22) R H=zm G N (R 0) (R 3) H:=by
 refine dj (aL _) λR H=> ?_
 delta zm;kernel_rfl
def vk(G:av)(N:Nat)(Y ay:I)(H:J):O:=
 aO H (G 50 [Y,(.str [41])] H) λfU U=>
 aO U (G 53 [Y,(.int .i64 4),(.str [58])] U) λgM aa=>
 bO (some gM) (aO aa (G 54 [Y] aa) λgR ae=>
 ab (aE P 46 ay 2) λgB=>
 a7 ae (aQ P ae 4 gB (.bool true)) λam=>
 ab (aE P 46 ay 3) λhB=>
 a7 am (aQ P am 43 hB gR) λaB=>
 zm G N Y ay aB) (zm G N Y ay aa)
theorem adD(G:av)(N:Nat): ∀R H,cw P G N (Code.snd (Code.snd (Code.snd (Code.snd (Code.snd (Code.snd (c6 Tryz.f22))))))) (bY Tryz.f22) [] (bY Tryz.f22) R H=vk G N (R 0) (R 3) H:=by
 refine dj ((bk ad ((bk ad (adE G N) (aL _))) (aL _))) λR H=> ?_
 delta vk;generalize zm G N=a1;revert a1;refine id ?_;intro a1;kernel_rfl
def G2(G:av)(N:Nat)(hC:I->I->J->O)(Y ay:I)(H:J):O:=
 aO H (G 53 [Y,(.int .i64 4),(.str [44])] H) λef U=>
 bO (some ef) (aO U (G 52 [Y,ay] U) λfv aa=>
 hC Y ay aa) (vk G N Y ay U)
def zn(G:av)(N:Nat):Nat->I->I->J->O
 |0,_,_,_=>none
 |n+1,Y,ay,H=>G2 G N (zn G N n) Y ay H
theorem adC(G:av)(N:Nat)(hC:I->I->J->O): ∀R H,cw P G N (Code.fst (Code.fst (Code.snd (Code.fst (Code.snd (Code.fst (Code.snd (Code.snd (Code.snd (Code.snd (Code.snd (c6 Tryz.f22)))))))))))) (λR H=>hC (R 0) (R 3) H) [(0,(λR H=>vk G N (R 0) (R 3) H))] (bY Tryz.f22) R H=G2 G N hC (R 0) (R 3) H:=by
 refine dj (aL _) λR H=> ?_
 delta G2;generalize vk G N=a1;revert a1;refine id ?_;intro a1;kernel_rfl
def IC(G:av)(N:Nat)(Y:I)(H:J):O:=
 ab (b5 Y) λbE=>
 ab (aE P 55 bE 2) λcq=>
 ab (aE P 26 cq 2) λb1=>
 ab (aj P H 24 b1) λcb=>
 bg P .len [24] [cb] H λb6=>
 aO H (G 48 [Y,(.bool true),b6,(.int .i64 16)] H) λbT U=>
 ab (b5 Y) λbG=>
 ab (aE P 55 bG 1) λcc=>
 ab (aj P U 3 cc) λcK=>
 ab (aW P .add 3 true cK (.int .i64 1)) λcM=>
 ab (b5 Y) λcA=>
 ab (aE P 55 cA 1) λcx=>
 a7 U (aQ P U 3 cx cM) λaa=>
 aO aa (G 49 [Y] aa) λcH ae=>
 cy ae [(.int .i64 0),(.str []),(.int .i64 0),(.int .i64 0)] λan am=>
 a7 am (aQ P am 57 an cH) λaB=>
 ab (aE P 57 an 1) λc1=>
 ab (aj P aB 9 c1) λdn=>
 ab (aE P 57 an 3) λdt=>
 ab (aj P aB 3 dt) λdc=>
 ab (cO P 46 [(0,dn),(5,dc)]) λdT=>
 cy aB [(.str []),I.ap,(.bool false),(.str []),(.int .i64 0),I.ap,(.int .i64 0)] λay aG=>
 a7 aG (aQ P aG 46 ay dT) λaP=>
 aO aP (G 50 [Y,(.str [40])] aP) λcF bq=>
 aO bq (G 19 [Y,(.int .i64 4),(.str [41])] bq) λdy bJ=>
 ab (eY .not dy) λei=>
 bO (some ei) (aO bJ (G 52 [Y,ay] bJ) λej co=>
 zn G N N Y ay co) (vk G N Y ay bJ)
theorem aiR(G:av)(N:Nat)(Y:I)(H:J):bn Tryz.f22 G N (cB [Y]) H=IC G N Y H:=by
 refine cL (A:=bn Tryz.f22 G N) ((bk ad ((bk ad ((bk ad ((bk ad ((bk ad ((bk ad (adD G N) ((bk ad ((qw ad ((bk ad ((fy ad ((gg (k:=λm R H=>zn G N m (R 0) (R 3) H) ad (λR H=>ad) (λm=>adC G N (zn G N m)))))) (aL _))) (aL _))) (aL _))))) (aL _))) (aL _))) (aL _))) (aL _))) (aL _))) ?_;delta IC;generalize vk G N=a1;generalize zn G N N=l8;revert a1 l8;refine id ?_;intro a1 l8;kernel_rfl
theorem akU(N:Nat){Y:I}{H:J}{r:I×J}(h:IC (aq P ao) N Y H=some r):aq P ao 22 [Y] H=some r:=
 cQ ad Tryz.func22 ad ad ad ((aiR (aq P ao) N Y H).trans h)
def FA(G:av)(Y ai:I)(H:J):O:=
 aO H (G 17 [Y] H) λbb U=>
 ab (eY .not bb) λbu=>
 bO (some bu) (aO U (G 18 [Y] U) λcq aa=>
 ab (d8 P 57 cq 3) λb1=>
 ab (cO P 29 [(0,ai),(1,b1)]) λcb=>
 ab (b5 Y) λb6=>
 ab (aE P 55 b6 3) λbT=>
 a7 aa (aQ P aa 29 bT cb) λae=>
 some (.tuple [],ae)) (some (.tuple [],U))
theorem aiS(G:av)(N:Nat)(Y:I)(ai:I)(H:J):bn Tryz.f23 G N (cB [Y,ai]) H=FA G Y ai H:=by
 refine cL (A:=bn Tryz.f23 G N) (aL _) ?_;delta FA;kernel_rfl
theorem akV(N:Nat){Y ai:I}{H:J}{r:I×J}(h:FA (aq P ao) Y ai H=some r):aq P ao 23 [Y,ai] H=some r:=
 cQ ad Tryz.func23 ad ad ad ((aiS (aq P ao) N Y ai H).trans h)
def De(G:av)(Y ai:I)(an ay:I)(H:J):O:=
 aD ai true H (di an) λcq U=>
 aD ai true U (di ay) λb1 aa=>
 aD ai true aa (bh (aW P .geq 3 false cq b1)) λcb ae=>
 ab (cX ai (some cb) (some (.bool false))) λb6=>
 bO (some b6) (aO ae (G 23 [Y,(.int .i64 4)] ae) λbW am=>
 some (.tuple [],am)) (some (.tuple [],ae))
theorem ajd(G:av)(N:Nat)(Y:I)(ai:I)(an:I)(ay:I)(H:J):bn Tryz.f48 G N (cB [Y,ai,an,ay]) H=De G Y ai an ay H:=by
 refine cL (A:=bn Tryz.f48 G N) (aL _) ?_;delta De;kernel_rfl
theorem alg(N:Nat){Y ai an ay:I}{H:J}{r:I×J}(h:De (aq P ao) Y ai an ay H=some r):aq P ao 48 [Y,ai,an,ay] H=some r:=
 cQ ad Tryz.func48 ad ad ad ((ajd (aq P ao) N Y ai an ay H).trans h)
def IJ(G:av)(Y:I)(H:J):O:=
 cy H [(.int .i64 0),(.str []),(.int .i64 0),(.int .i64 0)] λan U=>
 aO U (G 18 [Y] U) λbb aa=>
 cy aa [(.int .i64 0),(.str []),(.int .i64 0),(.int .i64 0)] λay ae=>
 a7 ae (aQ P ae 57 ay bb) λam=>
 ab (aE P 57 ay 0) λbu=>
 ab (aj P am 3 bu) λbx=>
 ab (aW P .neq 3 true bx (.int .i64 1)) λbS=>
 bO (some bS) (aO am (G 23 [Y,(.int .i64 2)] am) λcq aB=>
 a7 aB (aQ P aB 57 an (.agg [(.int .i64 0),(.str []),(.int .i64 0),(.int .i64 0)])) λaG=>
 ab (aj P aG 57 an) λr=>
 some (r,aG)) (ab (b5 Y) λb6=>
 ab (aE P 55 b6 1) λbT=>
 ab (aj P am 3 bT) λbW=>
 ab (aW P .add 3 true bW (.int .i64 1)) λbG=>
 ab (b5 Y) λcc=>
 ab (aE P 55 cc 1) λcK=>
 a7 am (aQ P am 3 cK bG) λaB=>
 ab (aj P aB 57 ay) λcM=>
 a7 aB (aQ P aB 57 an cM) λaG=>
 ab (aj P aG 57 an) λr=>
 some (r,aG))
theorem aje(G:av)(N:Nat)(Y:I)(H:J):bn Tryz.f49 G N (cB [Y]) H=IJ G Y H:=by
 refine cL (A:=bn Tryz.f49 G N) (aL _) ?_;delta IJ;kernel_rfl
theorem alh(N:Nat){Y:I}{H:J}{r:I×J}(h:IJ (aq P ao) Y H=some r):aq P ao 49 [Y] H=some r:=
 cQ ad Tryz.func49 ad ad ad ((aje (aq P ao) N Y H).trans h)
def IK(G:av)(Y ai:I)(H:J):O:=
 aO H (G 53 [Y,(.int .i64 4),ai] H) λbu U=>
 ab (eY .not bu) λbx=>
 bO (some bx) (aO U (G 23 [Y,(.int .i64 2)] U) λbE aa=>
 some (.tuple [],aa)) (some (.tuple [],U))
theorem ajf(G:av)(N:Nat)(Y:I)(ai:I)(H:J):bn Tryz.f50 G N (cB [Y,ai]) H=IK G Y ai H:=by
 refine cL (A:=bn Tryz.f50 G N) (aL _) ?_;delta IK;kernel_rfl
theorem ali(N:Nat){Y ai:I}{H:J}{r:I×J}(h:IK (aq P ao) Y ai H=some r):aq P ao 50 [Y,ai] H=some r:=
 cQ ad Tryz.func50 ad ad ad ((ajf (aq P ao) N Y ai H).trans h)
def IL(G:av)(Y:I)(H:J):O:=
 cy H [(.str []),(.str []),(.int .i64 0),(.int .i64 0)] λan U=>
 aO U (G 49 [Y] U) λbb aa=>
 cy aa [(.int .i64 0),(.str []),(.int .i64 0),(.int .i64 0)] λay ae=>
 a7 ae (aQ P ae 57 ay bb) λam=>
 aO am (G 50 [Y,(.str [58])] am) λbx aB=>
 aO aB (G 54 [Y] aB) λb1 aG=>
 ab (aE P 57 ay 1) λbS=>
 ab (aj P aG 9 bS) λbE=>
 ab (aE P 57 ay 3) λcb=>
 ab (aj P aG 3 cb) λb6=>
 ab (cO P 66 [(0,bE),(1,b1),(2,b6)]) λbT=>
 a7 aG (aQ P aG 66 an bT) λaP=>
 bif ((cj (aj P aB 9 bS) bE&&(cj (aj P aG 9 bS) bE&&true))&&((cj (aj P aB 3 cb) b6&&(cj (aj P aG 3 cb) b6&&true))&&true)) then(ab (aj P aP 66 an) λr=>
 some (r,aP)) else none
theorem ajg(G:av)(N:Nat)(Y:I)(H:J):bn Tryz.f51 G N (cB [Y]) H=IL G Y H:=by
 refine cL (A:=bn Tryz.f51 G N) (aL _) ?_;delta IL;kernel_rfl
theorem alj(N:Nat){Y:I}{H:J}{r:I×J}(h:IL (aq P ao) Y H=some r):aq P ao 51 [Y] H=some r:=
 cQ ad Tryz.func51 ad ad ad ((ajg (aq P ao) N Y H).trans h)
def IM(G:av)(Y ai:I)(H:J):O:=
 aO H (G 18 [Y] H) λbu U=>
 ab (d8 P 57 bu 0) λbx=>
 ab (aW P .eql 3 true bx (.int .i64 1)) λbS=>
 ab (b5 ai) λcq=>
 ab (aE P 46 cq 1) λb1=>
 ab (aj P U 23 b1) λcb=>
 iu (dF P .empty .len [23] [cb]) (dF P U .len [23] [cb]) λeQ=>
 aO (eQ.heap U) (G 48 [Y,bS,eQ.val,(.int .i64 6)] (eQ.heap U)) λbT aa=>
 bif oW [0,0,2,6,14,0,32,96,224,480,1023] [1,2,3,4,10] [⟨1,(.pure Y),λH=>none⟩,⟨2,(.hx bu U),λH=>none⟩,⟨0,(.pure Y),λH=>none⟩,⟨3,(.pure bx),λH=>none⟩,⟨4,(.pure bS),λH=>none⟩,⟨5,(.pure ai),λH=>none⟩,⟨6,(.pure cq),λH=>none⟩,⟨7,(.pure b1),λH=>none⟩,⟨8,(.read cb),λH=>aj P H 23 b1⟩,⟨9,eQ,λH=>dF P H .len [23] [cb]⟩,⟨10,(.hx bT aa),λH=>none⟩] H then(aO aa (G 51 [Y] aa) λcx ae=>
 ab (b5 ai) λcc=>
 ab (aE P 46 cc 1) λcK=>
 ab (aj P ae 23 cK) λcM=>
 dv ae (dK P (ae).next 23 1 [(0,cx)]) λcz am=>
 aO am (fQ P am [23,23] cM cz) λcH aB=>
 ab (b5 ai) λc1=>
 ab (aE P 46 c1 1) λdn=>
 a7 aB (aQ P aB 23 dn cH) λaG=>
 bif ((cj (aj P aa 23 cK) cM&&(cj (aj P ae 23 cK) cM&&(cj (aj P am 23 cK) cM&&true)))&&true) then(some (.tuple [],aG)) else none) else none
theorem ajh(G:av)(N:Nat)(Y:I)(ai:I)(H:J):bn Tryz.f52 G N (cB [Y,ai]) H=IM G Y ai H:=by
 refine cL (A:=bn Tryz.f52 G N) (aL _) ?_;delta IM;kernel_rfl
theorem alk(N:Nat){Y ai:I}{H:J}{r:I×J}(h:IM (aq P ao) Y ai H=some r):aq P ao 52 [Y,ai] H=some r:=
 cQ ad Tryz.func52 ad ad ad ((ajh (aq P ao) N Y ai H).trans h)
def IN(G:av)(Y ai an:I)(H:J):O:=
 aO H (G 19 [Y,ai,an] H) λcq U=>
 ab (eY .not cq) λb1=>
 bO (some b1) (some ((.bool false),U)) (ab (b5 Y) λb6=>
 ab (aE P 55 b6 1) λbT=>
 ab (aj P U 3 bT) λbW=>
 ab (aW P .add 3 true bW (.int .i64 1)) λbG=>
 ab (b5 Y) λcc=>
 ab (aE P 55 cc 1) λcK=>
 a7 U (aQ P U 3 cK bG) λaa=>
 some ((.bool true),aa))
theorem aji(G:av)(N:Nat)(Y:I)(ai:I)(an:I)(H:J):bn Tryz.f53 G N (cB [Y,ai,an]) H=IN G Y ai an H:=by
 refine cL (A:=bn Tryz.f53 G N) (aL _) ?_;delta IN;kernel_rfl
theorem alm(N:Nat){Y ai an:I}{H:J}{r:I×J}(h:IN (aq P ao) Y ai an H=some r):aq P ao 53 [Y,ai,an] H=some r:=
 cQ ad Tryz.func53 ad ad ad ((aji (aq P ao) N Y ai an H).trans h)
def IP(G:av)(Y:I)(H:J):O:=
 cy H [(.str []),(.int .i64 0)] λan U=>
 aO U (G 17 [Y] U) λbx aa=>
 bO (some bx) (a7 aa (aQ P aa 43 an (.agg [(.str []),(.int .i64 0)])) λae=>
 ab (aj P ae 43 an) λr=>
 some (r,ae)) (ab (b5 Y) λb1=>
 ab (aE P 55 b1 0) λcb=>
 ab (aj P aa 50 cb) λb6=>
 ab (b5 Y) λbW=>
 ab (aE P 55 bW 1) λbG=>
 ab (aj P aa 3 bG) λcc=>
 aO aa (G 73 [b6,cc] aa) λcK ae=>
 ab (gT cK 0) λcM=>
 cy ae [(.str []),(.int .i64 0)] λay am=>
 cy am [(.int .i64 0),(.int .i64 0)] λbb aB=>
 a7 aB (aQ P aB 43 ay cM) λaG=>
 ab (gT cK 1) λcA=>
 ab (gT cK 2) λcx=>
 a7 aG (aQ P aG 29 bb cx) λaP=>
 bif ((cj (aj P aa 50 cb) b6&&true)&&((cj (aj P aa 3 bG) cc&&true)&&true)) then(ab (aj P aP 29 bb) λc1=>
 aO aP (G 56 [Y,cA,c1] aP) λdn bq=>
 ab (aj P bq 43 ay) λdt=>
 a7 bq (aQ P bq 43 an dt) λbJ=>
 ab (aj P bJ 43 an) λr=>
 some (r,bJ)) else none)
theorem ajj(G:av)(N:Nat)(Y:I)(H:J):bn Tryz.f54 G N (cB [Y]) H=IP G Y H:=by
 refine cL (A:=bn Tryz.f54 G N) (aL _) ?_;delta IP;kernel_rfl
theorem aln(N:Nat){Y:I}{H:J}{r:I×J}(h:IP (aq P ao) Y H=some r):aq P ao 54 [Y] H=some r:=
 cQ ad Tryz.func54 ad ad ad ((ajj (aq P ao) N Y H).trans h)
def FE(G:av)(Y ai an:I)(H:J):O:=
 dv H (eK (H).next an) λbb U=>
 ab (aE P 29 bb 0) λbu=>
 ab (aj P U 27 bu) λbx=>
 ab (aW P .neq 27 true bx (.int .i64 0)) λbS=>
 bO (some bS) (ab (aj P U 29 bb) λcq=>
 ab (b5 Y) λb1=>
 ab (aE P 55 b1 3) λcb=>
 a7 U (aQ P U 29 cb cq) λaa=>
 some (.tuple [],aa)) (ab (b5 Y) λbW=>
 ab (aE P 55 bW 1) λbG=>
 a7 U (aQ P U 3 bG ai) λaa=>
 some (.tuple [],aa))
theorem ajl(G:av)(N:Nat)(Y:I)(ai:I)(an:I)(H:J):bn Tryz.f56 G N (cB [Y,ai,an]) H=FE G Y ai an H:=by
 refine cL (A:=bn Tryz.f56 G N) (aL _) ?_;delta FE;kernel_rfl
theorem alp(N:Nat){Y ai an:I}{H:J}{r:I×J}(h:FE (aq P ao) Y ai an H=some r):aq P ao 56 [Y,ai,an] H=some r:=
 cQ ad Tryz.func56 ad ad ad ((ajl (aq P ao) N Y ai an H).trans h)
end
end
end Go.Proofs.YtghmbpmaafnodaaGreatDoor
namespace Go.gd
 @[congr] theorem apu {H H':J} {cs uA:List I} {k:I->J->O} {z:Nat} (d:H=H') (e:cs=uA) (Zl:mH=z):cy H cs k=cy H' uA k:=by rw[d,e]
 @[congr] theorem apB {ms hR:List Nat} {T:List ks} {H:J} {z:Nat} (Zl:mH=z):oW ms hR T H=oW ms hR T H:=rfl
theorem Qg{ms hR:List Nat}{T:List ks}{H:J}: ∀S:List ks,S.all (λt=>hR.contains t.i)=true->xH ms hR T H S=true
 |[],_=>rfl
 |t::ts,h=>by
  simp only[List.all_cons,Bool.and_eq_true] at h;rw[xH,Qg ts h.2,Bool.and_true];split
  ·rw[h.1,Bool.true_or]
  ·rfl
theorem acW{ms hR:List Nat}{T:List ks}{H:J}(U:xO ms T []=true)(aa:T.all (λt=>hR.contains t.i)=true):oW ms hR T H=true:=by
 rw[oW,U,Qg T aa];rfl
end Go.gd
namespace Go.Proofs.YtghmbpmaafnodaaGreatDoor
open Go.gd
open Nat (reduceAdd reduceLeDiff)
section
structure hG(T:List Tok):Prop where
 n:T.length<=20000000
 g:Good T ((T.length:Int)-1)
def iD(ak b9 b8 b_:I)(s:aA):dY:= .row false 7 [[ak,.int .i64 s.at_,b9,b8,b_,.int .i64 s.aC,.int .i64 s.cv]]
structure fP(H:J)(r:Nat)(T:List Tok)(ak b9 b8 b_:I)(s:aA):Prop where
 rd:H.get r=some (iD ak b9 b8 b_ s)
 cf:ih H ak T
 a0:0<=s.at_
 bf:s.at_<T.length
 n:T.length<=20000000
 z:s.aC=0->s.cv=0
 o:s.bR=0
 one:b9.one=true/\b8.one=true/\b_.one=true
section
variable {H H':J}{r:Nat}{T:List Tok}{ak b9 b8 b_:I}{s s':aA}
theorem fP.lt(h:fP H r T ak b9 b8 b_ s):r<H.next:=J.aX h.rd
theorem fP.aK(h:fP H r T ak b9 b8 b_ s)(p:aR H H'):fP H' r T ak b9 b8 b_ s:=⟨p.get h.rd,h.cf.aK p,h.a0,h.bf,h.n,h.z,h.o,h.one⟩
theorem fP.Zc(h:fP H r T ak b9 b8 b_ s)(m:cC r H H'):ih H' ak T:=h.cf.bo λl ro els e=>m.get e (by
 rintro rfl;rw[h.rd] at e;simp only[iD,bF,dY.row.injEq] at e;omega)
theorem fP.set(h:fP H r T ak b9 b8 b_ s)(s':aA)(a0:0<=s'.at_)(bf:s'.at_<T.length)(z:s'.aC=0->s'.cv=0)(o:s'.bR=0):cC r H (H.set r (iD ak b9 b8 b_ s'))/\fP (H.set r (iD ak b9 b8 b_ s')) r T ak b9 b8 b_ s':=by
 have m:cC r H (H.set r (iD ak b9 b8 b_ s')):=dC.db (S:=(· =r)) (dC.refl _ _) (.inl rfl) _;exact⟨m,J.get_set_same h.lt,h.Zc m,a0,bf,h.n,z,o,h.one⟩
theorem fP.fin(h:fP H r T ak b9 b8 b_ s)(m:cC r H H')(aZ:H'.get r=some (iD ak b9 b8 b_ s'))(a0:0<=s'.at_)(bf:s'.at_<T.length)(z:s'.aC=0->s'.cv=0)(o:s'.bR=0):fP H' r T ak b9 b8 b_ s':=⟨aZ,h.Zc m,a0,bf,h.n,z,o,h.one⟩
theorem hG.next(aH:hG T)(h:(ar T s.at_).kind≠0):s.at_+1<T.length:=by have:=aH.g.lt _ h;omega
theorem LV(aH:hG T)(h:fP H r T ak b9 b8 b_ s)(ah:(ar T s.at_).kind≠0):aF s={s with at_:=s.at_+1}/\0<=(aF s).at_/\(aF s).at_<T.length:=by
 have:=aH.next ah
 have aY:=h.a0;have aU:=aH.n;have e:aF s={s with at_:=s.at_+1}:=by
  unfold aF hP;rw[IntWalk.i64_in _ ⟨Z,Z⟩]
 rw[e];exact⟨rfl,by(try simp only);omega,by(try simp only);omega⟩
theorem ao4{H:J}(a b:Int):dF P H .min [3,3] [.int .i64 a,.int .i64 b]=some (.int .i64 (if b<a then b else a)):=by
 simp only[dF,Hc]
theorem ih.rd(h:ih H ak T):cj (some ak) ak=true:=by
 rcases h with⟨rfl,_⟩|⟨l,i,cap,rfl,_⟩
 ·rfl
 ·exact u7 _ _ _ _ _
theorem yF(h:fP H r T ak b9 b8 b_ s):W (aq P ao 17 [.ptr r 0 0] H) λv H'=>v= .bool (s.aC != 0)/\H'=H:=by
 refine cP (λ_=>akP 0) ?_;have a8:=h.rd;unfold iD at a8;simp-implicitDefEqProofs(disch:=try exact af) only[Ix,reduceAdd,reduceLeDiff,reduceIte,aw,a8];exact a_.2 ⟨rfl,rfl⟩
theorem Bw(h:fP H r T ak b9 b8 b_ s):W (aq P ao 18 [.ptr r 0 0] H) λv H'=>v=(ar T s.at_).v/\aR H H':=by
 have a8:=h.rd;unfold iD at a8;have az:=h.lt;refine cP (λ_=>akQ 0) ?_;have a0:=h.a0;have bf:=h.bf;rcases h.cf with⟨rfl,e⟩|⟨l,i,cap,rfl,jI⟩
 ·rw[e] at bf;simp at bf;omega
 have et:s.at_.toNat<T.length:=Z;obtain⟨ro,els,aa,ae⟩:=jI.resolve_left (by rintro rfl;simp at et);have l1:=J.aX aa;have am:=ae s.at_.toNat T[s.at_.toNat] (by simp[et]);simp only[Tok.cells] at am;have aU:=h.n;have eo:IntKind.i64.wrap ((T.length:Int)-1)=(T.length:Int)-1:=IntWalk.i64_in _ ⟨Z,Z⟩;have amT:(if(T.length:Int)-1<s.at_ then(T.length:Int)-1 else s.at_)=s.at_:=if_neg Z;simp-implicitDefEqProofs(disch:=try exact af) only[Iy,reduceAdd,reduceLeDiff,reduceIte,aw,a8,ao4,eo,amT,aa,am,afC];refine vI (acW ad ad) ?_;simp-implicitDefEqProofs(disch:=try exact af) only[reduceAdd,reduceLeDiff,reduceIte,aw]
 refine a_.2 ⟨?_,aR.push _ _⟩;have aY: ¬s.at_<0:=Z;have U: ¬(T.length:Int)<=s.at_:=Z;simp[ar,aY,U,Tok.v,et]
theorem Gg(h:fP H r T ak b9 b8 b_ s){e:Int}(he:e≠0):W (aq P ao 23 [.ptr r 0 0,.int .i64 e] H) λv H'=>v= .tuple []/\cC r H H'/\fP H' r T ak b9 b8 b_ (cS T e s):=by
 refine cP (λ_=>akV 0) ?_;have de:=h.cf.one;obtain⟨dd,dG,eM⟩:=h.one;rw[FA];refine a6 (yF h) ?_;rintro _ H1 ⟨rfl,rfl⟩;refine⟨bN _,?_⟩;by_cases U:s.aC=0
 ·rw[show cS T e s={s with aC:=e,cv:=(ar T s.at_).pos} by simp[cS,U]];simp-implicitDefEqProofs(disch:=try exact af) only[bg,bL,U,bne_self_eq_false,Bool.not_false];refine a6 (Bw h) ?_;rintro _ bm ⟨rfl,aJ⟩;refine⟨aJ.1,?_⟩;have aa:=h.aK aJ;have cI:=aa.rd;unfold iD at cI;have l1:=aa.lt;simp-implicitDefEqProofs(disch:=try exact af) only[FA,reduceAdd,reduceLeDiff,reduceIte,aw,Tok.v,cI,de,dd,dG,eM];obtain⟨m,bd⟩:=aa.set {s with aC:=e,cv:=(ar T s.at_).pos} h.a0 h.bf (λb0=>absurd b0 he) h.o;exact a_.2 ⟨rfl,(aJ.mut _).trans m,bd⟩
 ·have ft:(s.aC != 0)=true:=by simpa using U
  rw[show cS T e s=s by simp[cS,U]];simp-implicitDefEqProofs(disch:=try exact af) only[bg,bL,ft,Bool.not_true];exact a_.2 ⟨rfl,dC.refl _ _,h⟩
theorem BD(h:fP H r T ak b9 b8 b_ s)(k:Int)(x:bl):W (aq P ao 19 [.ptr r 0 0,.int .i64 k,.str x] H) λv H'=>v= .bool (b7 T s k x)/\aR H H':=by
 refine cP (λ_=>akR 0) ?_;rw[Iz];refine a6 (Bw h) ?_;rintro _ H1 ⟨rfl,aV⟩;refine⟨aV.1,?_⟩;simp-implicitDefEqProofs(disch:=try exact af) only[reduceAdd,reduceLeDiff,reduceIte,aw,Tok.v];refine a6 (yF (h.aK (aV.bX _))) ?_;rintro _ bm ⟨rfl,rfl⟩;refine⟨bN _,?_⟩;by_cases U:s.aC=0
 ·by_cases aa:(ar T s.at_).kind=k
  ·simp-implicitDefEqProofs(disch:=try exact af) only[reduceAdd,reduceLeDiff,reduceIte,aw,a_,U,aa,bne_self_eq_false,Bool.not_false,beq_self_eq_true];exact⟨by simp[b7,U,aa],aV.bX _⟩
  ·have hq:((ar T s.at_).kind==k)=false:=by simpa using aa
   simp-implicitDefEqProofs(disch:=try exact af) only[reduceAdd,reduceLeDiff,reduceIte,aw,a_,U,hq,bne_self_eq_false,Bool.not_false];exact⟨by simp[b7,aa],aV.bX _⟩
 ·have ft:(s.aC != 0)=true:=by simpa using U
  simp-implicitDefEqProofs(disch:=try exact af) only[reduceAdd,reduceLeDiff,reduceIte,aw,a_,ft,Bool.not_true];exact⟨by simp[b7,U],aV.bX _⟩
theorem JP(aH:hG T)(h:fP H r T ak b9 b8 b_ s){k:Int}(ah:k≠0)(x:bl):W (aq P ao 53 [.ptr r 0 0,.int .i64 k,.str x] H) λv H'=>v= .bool (fj T k x s).1/\cC r H H'/\fP H' r T ak b9 b8 b_ (fj T k x s).2:=by
 refine cP (λ_=>alm 0) ?_;have de:=h.cf.one;obtain⟨dd,dG,eM⟩:=h.one;rw[IN];refine a6 (BD h k x) ?_;rintro _ H1 ⟨rfl,aV⟩;refine⟨aV.1,?_⟩;have aa:=h.aK aV;have cI:=aa.rd;unfold iD at cI;have l1:=aa.lt;cases ax:b7 T s k x with
 |false=>
  rw[show fj T k x s=(false,s) by simp[fj,ax]];simp-implicitDefEqProofs(disch:=try exact af) only[reduceAdd,reduceLeDiff,reduceIte,aw,Bool.not_false];exact a_.2 ⟨rfl,aV.mut _,aa⟩
 |true=>
  rw[show fj T k x s=(true,aF s) by simp[fj,ax]];have ik:=(sA ax).2.1;obtain⟨-,g0,g1⟩:=LV aH h (by rw[ik];exact ah);simp-implicitDefEqProofs(disch:=try exact af) only[reduceAdd,reduceLeDiff,reduceIte,aw,cI,de,dd,dG,eM,Bool.not_true];obtain⟨m,bd⟩:=aa.set (aF s) g0 g1 h.z h.o;exact a_.2 ⟨rfl,(aV.mut _).trans m,bd⟩
theorem yG(aH:hG T)(h:fP H r T ak b9 b8 b_ s)(x:bl):W (aq P ao 50 [.ptr r 0 0,.str x] H) λv H'=>v= .tuple []/\cC r H H'/\fP H' r T ak b9 b8 b_ (cZ T x s).2:=by
 refine cP (λ_=>ali 0) ?_;rw[IK];refine a6 (JP aH h (k:=4) cm x) ?_;rintro _ H1 ⟨rfl,m1,du⟩;refine⟨m1.1,?_⟩;cases ax:b7 T s 4 x with
 |false=>
  rw[show fj T 4 x s=(false,s) by simp[fj,ax]] at du ⊢;rw[show cZ T x s=(false,cS T 2 s) by simp[cZ,ax]];simp-implicitDefEqProofs(disch:=try exact af) only[reduceAdd,reduceLeDiff,reduceIte,aw,Bool.not_false];refine a6 (Gg du (e:=2) cm) ?_;rintro _ bm ⟨rfl,m2,cJ⟩;refine⟨m2.1,?_⟩;exact a_.2 ⟨rfl,m1.trans m2,cJ⟩
 |true=>
  rw[show fj T 4 x s=(true,aF s) by simp[fj,ax]] at du ⊢;rw[show cZ T x s=(true,aF s) by simp[cZ,ax]];simp-implicitDefEqProofs(disch:=try exact af) only[reduceAdd,reduceLeDiff,reduceIte,aw,Bool.not_true];exact a_.2 ⟨rfl,m1,du⟩
def gY(T:List Tok)(b:Bool)(aj9 am_:Int)(s:aA):aA:=bif b&&decide (am_<=aj9) then cS T 4 s else s
theorem DC(h:fP H r T ak b9 b8 b_ s)(b:Bool)(x y:Int):W (aq P ao 48 [.ptr r 0 0,.bool b,.int .i64 x,.int .i64 y] H) λv H'=>v= .tuple []/\cC r H H'/\fP H' r T ak b9 b8 b_ (gY T b x y s):=by
 refine cP (λ_=>alg 0) ?_;unfold gY;cases b with
 |false=>
  simp-implicitDefEqProofs(disch:=try exact af) only[De,reduceAdd,reduceLeDiff,reduceIte,aw];exact a_.2 ⟨rfl,dC.refl _ _,h⟩
 |true=>
  by_cases aS:y<=x
  ·simp-implicitDefEqProofs(disch:=try exact af) only[De,reduceAdd,reduceLeDiff,reduceIte,aw,aS,decide_true];refine a6 (Gg h (e:=4) cm) ?_;rintro _ bm ⟨rfl,m2,cJ⟩;refine⟨m2.1,a_.2 ⟨rfl,m2,?_⟩⟩;exact cJ
  ·simp-implicitDefEqProofs(disch:=try exact af) only[De,reduceAdd,reduceLeDiff,reduceIte,aw,aS,decide_false];exact a_.2 ⟨rfl,dC.refl _ _,h⟩
def h2(T:List Tok)(s:aA):Tok×aA:=bif (ar T s.at_).kind != 1 then(.none,cS T 2 s) else(ar T s.at_,aF s)
theorem J7(aH:hG T)(h:fP H r T ak b9 b8 b_ s):W (aq P ao 49 [.ptr r 0 0] H) λv H'=>v=(h2 T s).1.v/\cC r H H'/\fP H' r T ak b9 b8 b_ (h2 T s).2:=by
 refine cP (λ_=>alh 0) ?_;have de:=h.cf.one;obtain⟨dd,dG,eM⟩:=h.one;have en:=aR.push H (.row false 4 [[.int .i64 0,.str [],.int .i64 0,.int .i64 0]]);simp-implicitDefEqProofs(disch:=try exact af) only[IJ,bg,bL,List.length_cons,List.length_nil,Nat.zero_add,Nat.reduceAdd];refine a6 (Bw (h.aK en)) ?_;rintro _ H1 ⟨rfl,aV⟩;refine⟨aV.1,?_⟩;have ax:=aV.get (J.ca H (.row false 4 [[.int .i64 0,.str [],.int .i64 0,.int .i64 0]]));have fB:=aV.1;simp only[J.b2] at fB;have bi:=J.ca H1 (.row false 4 [[.int .i64 (ar T s.at_).kind,.str (ar T s.at_).text,.int .i64 (ar T s.at_).n,.int .i64 (ar T s.at_).pos]]);have aJ:=(en.trans aV).bX (.row false 4 [[.int .i64 (ar T s.at_).kind,.str (ar T s.at_).text,.int .i64 (ar T s.at_).n,.int .i64 (ar T s.at_).pos]])
 have ck:=(aR.push H1 (.row false 4 [[.int .i64 (ar T s.at_).kind,.str (ar T s.at_).text,.int .i64 (ar T s.at_).n,.int .i64 (ar T s.at_).pos]])).get ax;have aa:=h.aK aJ;have az:=h.lt;unfold h2;cases ah:((ar T s.at_).kind != 1) with
 |true=>
  simp-implicitDefEqProofs(disch:=try exact af) only[bg,bL,aj,dx,aQ,dx,Nat.reduceAdd,Nat.reduceLeDiff,reduceIte,I.cells,eF,fu,dB,ee,fH,Tok.v,ah];refine a6 (Gg aa (e:=2) cm) ?_;rintro _ cT ⟨rfl,m3,ae⟩;refine⟨m3.1,?_⟩;have eO:=m3.get ck Z;have gS:=J.aX eO;simp-implicitDefEqProofs(disch:=try exact af) only[reduceAdd,reduceLeDiff,reduceIte,aw,eO];have fK:cC r H (cT.set H.next (.row false 4 [[.int .i64 0,.str [],.int .i64 0,.int .i64 0]])):=((aJ.mut _).trans m3).db (.inr (bN _)) _;exact a_.2 ⟨rfl,fK,h.fin fK (by rw[J.get_set_other Z];exact ae.rd) ae.a0 ae.bf ae.z ae.o⟩
 |false=>
  have js:(ar T s.at_).kind=1:=by simpa using ah
  obtain⟨-,g0,g1⟩:=LV aH h Z;have cI:=aa.rd;unfold iD at cI;have l1:=aa.lt;obtain⟨m,bd⟩:=aa.set (aF s) g0 g1 h.z h.o;simp-implicitDefEqProofs(disch:=try exact af) only[bg,bL,aj,dx,aQ,dx,Nat.reduceAdd,Nat.reduceLeDiff,reduceIte,I.cells,eF,fu,dB,ee,fH,Tok.v,ah,cI,ck,bi,de,dd,dG,eM];have fK:=((aJ.mut (· =r)).trans m).db (.inr (bN _)) (.row false 4 [[.int .i64 (ar T s.at_).kind,.str (ar T s.at_).text,.int .i64 (ar T s.at_).n,.int .i64 (ar T s.at_).pos]]);exact a_.2 ⟨rfl,fK,h.fin fK (by rw[J.get_set_other Z];exact bd.rd) g0 g1 h.z h.o⟩
def ot(at_ e a:Int)(s:aA):aA:=if e≠0 then {s with aC:=e,cv:=a} else {s with at_:=at_}
theorem P2(h:fP H r T ak b9 b8 b_ s)(at_ e a:Int)(a8:e=0->0<=at_/\at_<T.length):W (aq P ao 56 [.ptr r 0 0,.int .i64 at_,.agg [.int .i64 e,.int .i64 a]] H) λv H'=>v= .tuple []/\cC r H H'/\fP H' r T ak b9 b8 b_ (ot at_ e a s):=by
 refine cP (λ_=>alp 0) ?_;have de:=h.cf.one;obtain⟨dd,dG,eM⟩:=h.one;have ij: ∀l,eK l (.agg [.int .i64 e,.int .i64 a])=some (.ptr l 0 0,.row false 2 [[.int .i64 e,.int .i64 a]]):=λl=>h8 l _ rfl
 have aV:=aR.push H (.row false 2 [[.int .i64 e,.int .i64 a]]);have aa:=h.aK aV;have cI:=aa.rd;unfold iD at cI;have az:=h.lt;by_cases he:e=0
 ·have ax:(e != 0)=false:=by simp[he]
  obtain⟨A_,cD⟩:=a8 he;rw[show ot at_ e a s={s with at_:=at_} by simp[ot,he]];obtain⟨m,bd⟩:=aa.set {s with at_:=at_} A_ cD h.z h.o;simp-implicitDefEqProofs(disch:=try exact af) only[FE,reduceAdd,reduceLeDiff,reduceIte,aw,ij,ax,cI,de,dd,dG,eM];exact a_.2 ⟨rfl,(aV.mut _).trans m,bd⟩
 ·have ax:(e != 0)=true:=by simpa using he
  rw[show ot at_ e a s={s with aC:=e,cv:=a} by simp[ot,he]];obtain⟨m,bd⟩:=aa.set {s with aC:=e,cv:=a} h.a0 h.bf (λb0=>absurd b0 he) h.o;simp-implicitDefEqProofs(disch:=try exact af) only[FE,reduceAdd,reduceLeDiff,reduceIte,aw,ij,ax,cI,de,dd,dG,eM];exact a_.2 ⟨rfl,(aV.mut _).trans m,bd⟩
theorem akw(h:fP H r T ak b9 b8 b_ s):In ((T.length:Int)-1) s:=⟨h.a0,by have:=h.bf;omega,by rw[h.o];omega,by rw[h.o];omega⟩
theorem akF(aH:hG T)(h:fP H r T ak b9 b8 b_ s)(al:s.aC=0)(bi:(eL T ⟨s.at_,0,0,0⟩).2.aC=0):0<=(eL T ⟨s.at_,0,0,0⟩).2.at_/\(eL T ⟨s.at_,0,0,0⟩).2.at_<T.length:=by
 have ng:=Ha aH.n (s:=s) (x:=s) al ⟨rfl,rfl,bN _⟩ (h.z al);have e:(my T s).2.at_=(eL T ⟨s.at_,0,0,0⟩).2.at_/\(my T s).2.aC=0:=by
  unfold my;rw[if_pos bi];exact⟨rfl,al⟩
 have eq:=ng.1.eq e.2;have fx:=(Ej aH.g (λ_=>akw h) (by rw[eq];exact e.2)).2;rw[eq] at fx;have a:=fx.a;have b:=fx.b;have:=h.a0;rw[e.1] at a b;exact⟨Z,Z⟩
def nD(T:List Tok)(s:aA):(bl×Int)×aA:=if s.aC≠0 then(([],0),s) else my T s
theorem RZ(aH:hG T)(h:fP H r T ak b9 b8 b_ s):W (aq P ao 54 [.ptr r 0 0] H) λv H'=>v= .agg [.str (nD T s).1.1,.int .i64 (nD T s).1.2]/\cC r H H'/\fP H' r T ak b9 b8 b_ (nD T s).2:=by
 refine cP (λ_=>aln 0) ?_;have de:=h.cf.one;obtain⟨dd,dG,eM⟩:=h.one;have yg:=h.cf.rd;have az:=h.lt;have en:=aR.push H (.row false 2 [[.str [],.int .i64 0]]);have ax:=J.ca H (.row false 2 [[.str [],.int .i64 0]]);have U:=h.aK en;simp-implicitDefEqProofs(disch:=try exact af) only[IP,bg,bL,List.length_cons,List.length_nil,Nat.zero_add,Nat.reduceAdd];refine a6 (yF U) ?_;rintro _ H1 ⟨rfl,rfl⟩;refine⟨bN _,?_⟩;by_cases al:s.aC=0
 ·have e1:(s.aC != 0)=false:=by simpa using al
  have mY:=U.rd;unfold iD at mY;rw[show nD T s=my T s by simp[nD,al]];simp-implicitDefEqProofs(disch:=try exact af) only[bg,bL,aj,dx,Nat.reduceAdd,Nat.reduceLeDiff,reduceIte,I.cells,eF,fu,dB,fH,e1,mY];refine a6 (Sj U.cf s.at_) ?_;rintro _ bm ⟨rfl,aJ⟩;refine⟨aJ.1,?_⟩;have rg:=akF aH h al;unfold my;unfold nK;generalize eL T ⟨s.at_,0,0,0⟩=q at rg;obtain⟨⟨x,d⟩,u0⟩:=q;have ck:=aJ.get ax;have n2:=aJ.1;simp only[J.b2] at n2;have iw:=J.aX ck;have key: ∀(x:bl) (d at_ e a:Int) (a8:e=0->0<=at_/\at_<T.length),W (ab (some (.agg [.str x,.int .i64 d])) λcM=>
 cy bm [(.str []),(.int .i64 0)] λay am=>
 cy am [(.int .i64 0),(.int .i64 0)] λbb aB=>
 a7 aB (aQ P aB 43 ay cM) λaG=>
 ab (some (.int .i64 at_)) λcA=>
 ab (some (.agg [.int .i64 e,.int .i64 a])) λcx=>
 a7 aG (aQ P aG 29 bb cx) λaP=>
 bif ((cj (some ak) ak&&true)&&((cj (some (.int .i64 s.at_)) (.int .i64 s.at_)&&true)&&true)) then(ab (aj P aP 29 bb) λc1=>
 aO aP (aq P ao 56 [.ptr r 0 0,cA,c1] aP) λdn bq=>
 ab (aj P bq 43 ay) λdt=>
 a7 bq (aQ P bq 43 (.ptr H.next 0 0) dt) λbJ=>
 ab (aj P bJ 43 (.ptr H.next 0 0)) λr=>
 some (r,bJ)) else none) λv H'=>v= .agg [.str x,.int .i64 d]/\cC r H H'/\fP H' r T ak b9 b8 b_ (ot at_ e a s):=by
   intro x d at_ e a a8;have bB:=(en.trans aJ).bX (.row false 2 [[.str x,.int .i64 d]])|>.bX (.row false 2 [[.int .i64 e,.int .i64 a]]);have eO:=((aR.push bm (.row false 2 [[.str x,.int .i64 d]])).bX (.row false 2 [[.int .i64 e,.int .i64 a]])).get ck;have mw:=(aR.push (bm.push (.row false 2 [[.str x,.int .i64 d]])) (.row false 2 [[.int .i64 e,.int .i64 a]])).get (J.ca bm (.row false 2 [[.str x,.int .i64 d]]));simp-implicitDefEqProofs(disch:=try exact af) only[reduceAdd,reduceLeDiff,reduceIte,aw,J.io,yg,Bool.and_true];refine a6 (P2 (h.aK bB) at_ e a a8) ?_;rintro _ ct ⟨rfl,m4,am⟩;refine⟨m4.1,?_⟩
   have fV:=m4.get eO Z;have iI:=m4.get mw Z;have h7:=J.aX fV;simp-implicitDefEqProofs(disch:=try exact af) only[reduceAdd,reduceLeDiff,reduceIte,aw,fV,iI];have fK:=((bB.mut (· =r)).trans m4).db (.inr (bN _)) (.row false 2 [[.str x,.int .i64 d]]);exact a_.2 ⟨rfl,fK,h.fin fK (by rw[J.get_set_other Z];exact am.rd) am.a0 am.bf am.z am.o⟩
  have l2:=h.rd;unfold iD at l2;by_cases bi:u0.aC=0
  ·have k:=key x d u0.at_ 0 0 (λ_=>rg bi);have aI:ot u0.at_ 0 0 s={s with at_:=u0.at_}:=by simp[ot]
   simp only[bi,if_true];rw[aI] at k;simp-implicitDefEqProofs(disch:=try exact af) only[bg,bL,aj,dx,aQ,dx,Nat.reduceAdd,Nat.reduceLeDiff,reduceIte,I.cells,eF,fu,dB,fH,J.io,l2,yg] at k ⊢;exact k
  ·have k:=key [] 0 0 u0.aC u0.cv (λb0=>absurd b0 bi);have aI:ot 0 u0.aC u0.cv s={s with aC:=u0.aC,cv:=u0.cv}:=by simp[ot,bi]
   simp only[bi,if_false];rw[aI] at k;simp-implicitDefEqProofs(disch:=try exact af) only[bg,bL,aj,dx,aQ,dx,Nat.reduceAdd,Nat.reduceLeDiff,reduceIte,I.cells,eF,fu,dB,fH,J.io,l2,yg] at k ⊢;exact k
 ·have e1:(s.aC != 0)=true:=by simpa using al
  rw[show nD T s=(([],0),s) by simp[nD,al]];simp-implicitDefEqProofs(disch:=try exact af) only[reduceAdd,reduceLeDiff,reduceIte,aw,e1,J.io];have fK:=(en.mut (· =r));exact a_.2 ⟨rfl,fK,U⟩
end
end
section
def ec.cells(p:ec):List I:=[.str p.name,.str p.eV,.int .i64 p.fT,.int .i64 p.pos]
def fz:tl ec:=⟨4,λ_ _ p cs=>cs=p.cells,λh=>by rw[h];exact⟨rfl,rfl⟩,λ_ h=>h⟩
theorem vJ:v7 23 66 4:=⟨ad,Mx,⟨_,(by kernel_rfl:rv P 66=some 48),cm⟩,⟨_,(by kernel_rfl:j2 P 66=some (.agg [.str [],.str [],.int .i64 0,.int .i64 0])),rfl,rfl⟩,cm⟩
def i6(T:List Tok)(s:aA):ec×aA:=(⟨(h2 T s).1.text,(nD T (cZ T [58] (h2 T s).2).2).1.1,(nD T (cZ T [58] (h2 T s).2).2).1.2,(h2 T s).1.pos⟩,(nD T (cZ T [58] (h2 T s).2).2).2)
section
variable {H H':J}{r:Nat}{T:List Tok}{ak b9 b8 b_:I}{s s':aA}
theorem JQ(aH:hG T)(h:fP H r T ak b9 b8 b_ s):W (aq P ao 51 [.ptr r 0 0] H) λv H'=>v= .agg (i6 T s).1.cells/\cC r H H'/\fP H' r T ak b9 b8 b_ (i6 T s).2:=by
 refine cP (λ_=>alj 0) ?_;have az:=h.lt;have en:=aR.push H (.row false 4 [[.str [],.str [],.int .i64 0,.int .i64 0]]);have ax:=J.ca H (.row false 4 [[.str [],.str [],.int .i64 0,.int .i64 0]]);simp-implicitDefEqProofs(disch:=try exact af) only[IL,bg,bL,List.length_cons,List.length_nil,Nat.zero_add,Nat.reduceAdd];refine a6 (J7 aH (h.aK en)) ?_;rintro _ H1 ⟨rfl,m1,U⟩;refine⟨m1.1,?_⟩;have fB:=m1.1;simp only[J.b2] at fB;have dQ:=m1.get ax Z;unfold i6;generalize h2 T s=q at U ⊢;obtain⟨⟨k,x,z,p⟩,s1⟩:=q;simp only at U ⊢;have aJ:=aR.push H1 (.row false 4 [[.int .i64 k,.str x,.int .i64 z,.int .i64 p]])
 have lZ:=J.ca H1 (.row false 4 [[.int .i64 k,.str x,.int .i64 z,.int .i64 p]]);simp-implicitDefEqProofs(disch:=try exact af) only[bg,bL,aj,dx,aQ,dx,Nat.reduceAdd,Nat.reduceLeDiff,reduceIte,I.cells,eF,fu,dB,fH,J.io,Tok.v];refine a6 (yG aH (U.aK aJ) [58]) ?_;rintro _ cT ⟨rfl,m3,ae⟩;refine⟨m3.1,?_⟩;have jC:=m3.1;simp only[J.b2] at jC;generalize (cZ T [58] s1).2=s2 at ae ⊢;simp-implicitDefEqProofs(disch:=try exact af) only[bg,bL];refine a6 (RZ aH ae) ?_;rintro _ ct ⟨rfl,m4,am⟩;refine⟨m4.1,?_⟩;have mF:=m4.1;generalize nD T s2=o at am ⊢;obtain⟨⟨y,d⟩,qp⟩:=o;simp only at am ⊢;have ck:=aJ.get dQ;have eO:=m3.get ck Z
 have mw:=m3.get lZ Z;have fV:=m4.get eO Z;have iI:=m4.get mw Z;have h7:=J.aX fV;simp-implicitDefEqProofs(disch:=try exact af) only[reduceAdd,reduceLeDiff,reduceIte,aw,fV,mw,iI];have fK:=((((en.mut (· =r)).trans m1).trans (aJ.mut _)).trans m3).trans m4;have Da:=fK.db (.inr (bN _)) (.row false 4 [[.str x,.str y,.int .i64 d,.int .i64 p]]);exact a_.2 ⟨rfl,Da,h.fin Da (by rw[J.get_set_other Z];exact am.rd) am.a0 am.bf am.z am.o⟩
theorem fJ.pm{ok:Nat->Prop}{l:List ec}{v:I}(h:fJ fz ok H l v)(p:ec)(aU:ok (H.next+1))(az:l.length<=1000000000):
  ∃dr H',fQ P (H.push (.row false 4 [p.cells])) [23,23] v (.aN H.next 0 1 4 (some 1))=some (dr,H')/\fJ fz ok H' (l++[p]) dr/\H.next+1<=H'.next/\(∀k,k<H.next-> ¬ok k->H'.get k=H.get k):=by
 obtain⟨dr,H',a,b,c,d⟩:=fJ.app (K:=fz) (ok':=ok) vJ h (okE:=λ_=>False) (a:=p) (cs:=p.cells) rfl (λ_ _ b0=>b0.elim) (λ_ _ b0 _=>b0) aU az;refine⟨dr,H',a,b,c,λk ah jf=>d k ah ?_⟩;rintro L bA rfl;rcases h with⟨rfl,_⟩|⟨L',els,rfl,bc,_⟩
 ·cases bA
 ·cases bA;exact jf bc
theorem fJ.qN{ok:Nat->Prop}{l:List ec}{v:I}(h:fJ fz ok H l v)(H':J):dF P H' .len [23] [v]=some (.int .i64 l.length):=by
 rcases h with⟨rfl,rfl⟩|⟨L,els,rfl,_⟩
 ·exact Hl
 ·exact EA
theorem fJ.rd{α:Type}{K:tl α}{ok:Nat->Prop}{l:List α}{v:I}(h:fJ K ok H l v):cj (some v) v=true:=by
 rcases h with⟨rfl,_⟩|⟨L,els,rfl,_⟩
 ·rfl
 ·exact u7 _ _ _ _ _
end
end
section
def tE(T:List Tok):Nat->List ec->aA->R (List ec)
 |0,_,_=>none
 |n+1,l,s=>bif s.aC==0&& !b7 T s 4 [125] then
  tE T n (l++[(i6 T (gY T ((ar T s.at_).kind==1) l.length 8 s)).1]) (cZ T [59] (i6 T (gY T ((ar T s.at_).kind==1) l.length 8 s)).2).2
  else some (l,s)
abbrev nP(r n:Nat):J->J->Prop:=dC λk=>k=r\/n<=k
section
variable {H H':J}{r:Nat}{T:List Tok}{ak b9 b8 b_:I}{s s':aA}
theorem fP.zU{H1:J}{s0:aA}(h:fP H1 r T ak b9 b8 b_ s0)(m:nP r H1.next H1 H')(aZ:H'.get r=some (iD ak b9 b8 b_ s'))(a0:0<=s'.at_)(bf:s'.at_<T.length)(z:s'.aC=0->s'.cv=0)(o:s'.bR=0):fP H' r T ak b9 b8 b_ s':=
 ⟨aZ,h.cf.bo λl ro els e=>m.get e (by
  have:=J.aX e;rintro(rfl|b0)
  ·rw[h.rd] at e;simp only[iD,bF,dY.row.injEq] at e;omega
  ·omega),a0,bf,h.n,z,o,h.one⟩
theorem cC.A7{n:Nat}(m:cC r H H'):nP r n H H':=⟨m.1,λl az aM=>m.2 l az λe=>aM (.inl e)⟩
structure jz(H1 H:J)(r c n2 esz:Nat)(T:List Tok)(ak b9 b8 b_:I)(x:I)(rest:List I)(l:List ec)(v:I)(s:aA):Prop where
 dm:fP H r T ak b9 b8 b_ s
 cell:H.get c=some (.row false esz [x::v::rest])
 hD:fJ fz (bI n2) H l v
 m:nP r H1.next H1 H
 cR:r<H1.next
 dd:H1.next<=c
 dG:c<n2
 eM:n2<=H.next
theorem jz.mut{H1:J}{c n2 esz:Nat}{x:I}{rest:List I}{l:List ec}{v:I}(h:jz H1 H r c n2 esz T ak b9 b8 b_ x rest l v s)(m:cC r H H')(dm:fP H' r T ak b9 b8 b_ s'):jz H1 H' r c n2 esz T ak b9 b8 b_ x rest l v s':=by
 have cR:=h.cR;have dd:=h.dd;have dG:=h.dG;have eM:=h.eM;exact⟨dm,m.get h.cell Z,h.hD.bo (eb.mut m λk ah=>by unfold bI at ah;omega),h.m.trans m.A7,cR,dd,dG,by have:=m.1;omega⟩
theorem jz.add{H1:J}{c n2 esz:Nat}{x:I}{rest:List I}{l:List ec}{v:I}(U:fP H1 r T ak b9 b8 b_ s')(h:jz H1 H r c n2 esz T ak b9 b8 b_ x rest l v s)(az:l.length<=1000000000)(p:ec):
  ∃dr H',fQ P (H.push (.row false 4 [p.cells])) [23,23] v (.aN H.next 0 1 4 (some 1))=some (dr,H')/\H.next+1<=H'.next/\dr.one=true/\H'.get c=some (.row false esz [x::v::rest])/\(H.push (.row false 4 [p.cells])).get c=some (.row false esz [x::v::rest])/\jz H1 (H'.set c (.row false esz [x::dr::rest])) r c n2 esz T ak b9 b8 b_ x rest (l++[p]) dr s:=by
 have cR:=h.cR;have dd:=h.dd;have dG:=h.dG;have eM:=h.eM;obtain⟨dr,H',a,b,q,d⟩:=h.hD.pm p (by unfold bI;omega) az;have gc:H'.get c=some (.row false esz [x::v::rest]):=by rw[d c Z (by unfold bI;omega)];exact h.cell
 have lc:=J.aX gc;have fK:nP r H1.next H1 (H'.set c (.row false esz [x::dr::rest])):=h.m.trans ⟨by simp;omega,λk ah aM=>by
  have Ay:k≠r:=λe=>aM (.inl e)
  have Fh: ¬H1.next<=k:=λe=>aM (.inr e)
  rw[J.get_set_other Z,d k ah (by unfold bI;omega)]⟩
 refine⟨dr,H',a,q,b.one,gc,(aR.push _ _).get h.cell,?_,J.get_set_same lc,b.bo λk x ah g=>⟨ah,by unfold bI at ah;rw[J.get_set_other Z];exact g⟩,fK,cR,dd,dG,by simp;omega⟩;exact U.zU fK (by rw[J.get_set_other Z,d r Z (by unfold bI;omega)];exact h.dm.rd) h.dm.a0 h.dm.bf h.dm.z h.dm.o
theorem O8{N:Nat}(aH:hG T){Q:I->J->Prop}{H1:J}{c n2:Nat}{nm:bl}{ew:Int}{s0:aA}(U:fP H1 r T ak b9 b8 b_ s0){l':List ec}
  (ek: ∀H v,jz H1 H r c n2 3 T ak b9 b8 b_ (.str nm) [.int .i64 ew] l' v s'->W (zk (aq P ao) N (.ptr r 0 0) (.ptr c 0 0) H) Q):
  ∀(n m:Nat) (H:J) (s:aA) (l:List ec) (v:I),n<m->l.length+n<=1000000000->jz H1 H r c n2 3 T ak b9 b8 b_ (.str nm) [.int .i64 ew] l v s->tE T n l s=some (l',s')->W (zl (aq P ao) N m (.ptr r 0 0) (.ptr c 0 0) H) Q
 |_,0,_,_,_,_,aU,_,_,_=>Z
 |0,m+1,_,_,_,_,_,_,_,al=>by cases al
 |n+1,m+1,H,s,l,v,aU,ax,h,al=>by
  rw[tE] at al;rw[zl];unfold G1;refine a6 (yF h.dm) ?_;rintro _ bm ⟨rfl,rfl⟩;refine⟨bN _,?_⟩;by_cases aY:s.aC=0
  ·have mu:(s.aC != 0)=false:=by simpa using aY
   have ii:(s.aC==0)=true:=by simpa using aY
   simp-implicitDefEqProofs(disch:=try exact af) only[bg,bL,mu,Bool.not_false];refine gP (BD h.dm 4 [125]) ?_;rintro _ cT ⟨rfl,bB⟩;refine⟨bB.1,?_⟩;have ae:=h.mut (bB.mut _) (h.dm.aK bB);cases ag:b7 T s 4 [125] with
   |true=>
    rw[ii,ag] at al;cases al;simp-implicitDefEqProofs(disch:=try exact af) only[bg,bL,Bool.not_true];exact ek _ _ ae
   |false=>
    rw[ii,ag] at al;simp only[Bool.not_false,Bool.and_true,bC] at al;simp-implicitDefEqProofs(disch:=try exact af) only[bg,bL,Bool.not_false];refine a6 (Bw ae.dm) ?_;rintro _ ct ⟨rfl,bK⟩;refine⟨bK.1,?_⟩;have am:=ae.mut (bK.mut _) (ae.dm.aK bK);have je:=λH'=>am.hD.qN H'
    have cp:=am.hD.rd;have iI:=am.cell;have mw:=ae.cell;simp-implicitDefEqProofs(disch:=try exact af) only[reduceAdd,reduceLeDiff,reduceIte,aw,Tok.v,iI,je];refine a6 (DC am.dm _ _ _) ?_;rintro _ dp ⟨rfl,m5,iC⟩;refine⟨m5.1,?_⟩;have aB:=am.mut m5 iC;have jJ:=aB.cell;generalize gY T ((ar T s.at_).kind==1) l.length 8 s=mG at aB al;refine vI (wL ad ?_) ?_
    ·have key: ∀wy:J,wy.get c=some (.row false 3 [.str nm::v::[.int .i64 ew]])->cj (aj P wy 23 (.ptr c 0 1)) v=true:=λwy b0=>by
      simp-implicitDefEqProofs(disch:=try exact af) only[aj,dx,Nat.reduceAdd,Nat.reduceLeDiff,reduceIte,I.cells,eF,fu,b0,cp]
     simp only[rU,vG,F8,F9,Gb,List.forall_mem_cons];refine⟨(λv bA=>by cases bA),(λv bA=>by cases bA),(λv bA=>by cases bA),(λv bA=>by cases bA),(λv bA=>by cases bA),(λv bA=>by cases bA),(λv bA=> .inr ?_),(λv bA=>by cases bA),(λv bA=>by cases bA),trivial⟩;cases bA;simp[key _ mw,key _ iI,key _ jJ]
    ·refine a6 (JQ aH aB.dm) ?_;rintro _ fW ⟨rfl,m6,wC⟩;refine⟨m6.1,?_⟩;have aG:=aB.mut m6 wC;have r_:=aG.cell;have z1:=aG.hD.rd;generalize i6 T mG=q at aG al;obtain⟨p,Bb⟩:=q;obtain⟨dr,fX,hg,pk,im,aI,bc,aP⟩:=aG.add U Z p;have ff:=uc vJ fW.next (cs:=p.cells) rfl rfl
     have uB:(fW.push (.row false 4 [p.cells])).next<=fX.next:=by simp only[J.b2];exact pk
     have hr:=kb im;simp only[I.cells] at hr;simp-implicitDefEqProofs(disch:=try exact af) only[bg,bL,aj,dx,aQ,dx,Nat.reduceAdd,Nat.reduceLeDiff,reduceIte,I.cells,eF,fu,dB,fH,hr,r_,ff,hg,kx,aI,bc,im,z1,jJ];refine a6 (yG aH aP.dm [59]) ?_;rintro _ jX ⟨rfl,m8,N8⟩;refine⟨m8.1,?_⟩;exact O8 aH U ek n m jX _ _ dr Z (by simp;omega) (aP.mut m8 N8) al
  ·have mu:(s.aC != 0)=true:=by simpa using aY
   have ii:(s.aC==0)=false:=by simpa using aY
   rw[ii] at al;cases al;simp-implicitDefEqProofs(disch:=try exact af) only[bg,bL,mu,Bool.not_true];exact ek _ _ h
end
end
end Go.Proofs.YtghmbpmaafnodaaGreatDoor
