/-
  Texts of one proof, laid together: U6 U7 ShP Fds Qb Qc Qd.
-/
import Derived.Test.YtghmbpmaafnodaaGreatDoorML
import Derived.Test.YtghmbpmaafnodaaGreatDoorMM
import Derived.Test.YtghmbpmaafnodaaGreatDoorMD
set_option linter.unusedVariables false
set_option linter.unusedSimpArgs false
namespace Go.Proofs.YtghmbpmaafnodaaGreatDoor
open Go.f7
open Nat (reduceAdd reduceLeDiff)
section
theorem Mb:P.underlying 144=some (.map 9 143):=ad
theorem V4:jZ P 143=some .nilFunc:=ad
theorem Ck{H:J}{l:Nat}{es:List (I×I)}(k:bk)(v:I)(aX:H.get l=some (.map es))(ak:pX .string (.str k) es 0=some none):jg P H 144 (.map l) (.str k) v=some (H.set l (.map (es++[(.str k,v)]))):=by
 simp only[jg,Mb,ww,aX,plainKey,ak,if_true]
def uf:List (I×I):=[(.str [118,97,114],fn 139),(.str [108,101,116],fn 140),(.str [105,102],fn 141),(.str [119,104,105,108,101],fn 142),(.str [114,101,116,117,114,110],fn 143),(.str [112,114,105,110,116],fn 144)]
theorem adn(H:J):W (au P ao 125 [] H) λv H'=>v= .map H.next/\H'=H.push (.map uf):=by
 refine cU (λ_=>ai1 0) ?_;simp only[HY,yF];rw[Ck _ _ (J.ca H _) rfl,lx (by simp),J.n0];rw[Ck _ _ (J.ca H _) rfl,lx (by simp),J.n0];rw[Ck _ _ (J.ca H _) rfl,lx (by simp),J.n0];rw[Ck _ _ (J.ca H _) rfl,lx (by simp),J.n0];rw[Ck _ _ (J.ca H _) rfl,lx (by simp),J.n0];rw[Ck _ _ (J.ca H _) rfl,lx (by simp),J.n0];exact a8.2 ⟨rfl,rfl⟩
theorem aly{H:J}{l:Nat}(t:bk)(aX:H.get l=some (.map uf)):n1 P H 144 (.map l) (.str t) false=some (j2 t uf):=by
 rcases Gi t uf 0 (by intro e he;simp[uf] at he;rcases he with rfl|rfl|rfl|rfl|rfl|rfl<;>exact⟨_,rfl⟩) with⟨j,v,U,aa⟩|⟨U,aa⟩
 ·simp only[n1,Mb,ww,V4,plainKey,if_true,aX,U,aa,Bool.false_eq_true,if_false]
 ·simp only[n1,Mb,ww,V4,plainKey,if_true,aX,U,aa,Bool.false_eq_true,if_false]
theorem alE(n:Nat):aZ P .neq 143 true (fn n) .nilFunc=some (.bool true):=ad
theorem aiC:aZ P .neq 143 true .nilFunc .nilFunc=some (.bool false):=ad
theorem KS{H0 H:J}{r:Nat}{T:List Tok}{aj:I}{s0 s:aw}(bt:c8 H0 r T aj s0)(bM:cB r H0 H)(cp:c1 H r aj s){k b:Nat}{e:cy}{s':aw}{cE eM eB:Int}{cx:bk}(aS: ∀hy,c8 hy r T aj s->W (au P ao k [.ptr r 0 0] hy) (gE hy r T aj e s'))
  (g2:H.get H0.next=some (.row false 9 [[.int .i64 0,.str [],.str [],.int .i64 0,.an,.an,.an,.int .i64 0,.int .i64 0]])) (g3:H.get b=some (.row false 4 [[.int .i64 cE,.str cx,.int .i64 eM,.int .i64 eB]])) (ay:H0.next<=b):
  W (wY (au P ao) (.ptr r 0 0) (.ptr H0.next 0 0) (.ptr b 0 0) (fn k) H) (gE H0 r T aj (e.at eB) s'):=by
 have ax:=bt.rd.lt;have Oq:=J.aW g2;rw[wY];simp only[fn,sw,List.nil_append,List.append_nil];refine aY (aS H (bt.mut bM cp)) ?_;rintro v H1 ⟨m1,dt,he⟩;refine⟨m1.1,?_⟩;have aa:=m1.get g2 Z;have ae:=m1.get g3 Z;have fB:=J.aW aa;have gL:=J.aW ae;cases e with|mk a es c_ bJ=>
 obtain⟨ev,bv,fu,rfl,cS,dq,dP⟩:=tN.1 he;have cZ:=cS.gq;have dk:=dq.gq;have dJ:=dP.gq;simp-implicitDefEqProofs(disch:=try exact ag) only[vR,reduceAdd,reduceLeDiff,reduceIte,az,ea,dv.cells,cZ,dk,dJ,aa,ae];have iS: ∀gW,fD H1 (bG H.next) (H1.push gW) (bG (H0.next+1)):=λgW=>fD.aK (aR.push _ _) λl ax=>by unfold bG at*;omega
 exact a8.2 (gE.fin (a:={a with pos:=eB}) bt ((bM.trans m1).bV _) (dt.rd.aK (aR.push _ _)) (cS.bo (iS _).ex) (dq.bo (iS _)) (dP.bo (iS _)) (bL _) (Nat.lt_succ_self _) _)
theorem afj{n:Nat}(NK:Kz n)(AB:KB n):D5 (n+1):=by
 intro H r T aj s aH af e s' h;refine cU (λ_=>aiN 0) ?_;have ax:=af.rd.lt;have df:=af.b9.one;have aU:=aR.push H (.row false 9 [[.int .i64 0,.str [],.str [],.int .i64 0,.an,.an,.an,.int .i64 0,.int .i64 0]]);simp-implicitDefEqProofs(disch:=try exact ag) only[vR,reduceAdd,reduceLeDiff,reduceIte,az,ea];refine aY (Gw (af.rd.aK aU) (af.b9.aK aU)) ?_;rintro _ bl ⟨rfl,aJ⟩;refine⟨aJ.1,?_⟩;have n2:=aJ.1;simp only[J.b6] at n2;have bz:=(aU.trans aJ).bV (.row false 4 [[.int .i64 (aq T s.at_).kind,.str (aq T s.at_).text,.int .i64 (aq T s.at_).n,.int .i64 (aq T s.at_).pos]]);have g2:=(aR.push bl (.row false 4 [[.int .i64 (aq T s.at_).kind,.str (aq T s.at_).text,.int .i64 (aq T s.at_).n,.int .i64 (aq T s.at_).pos]])).get (aJ.get (J.ca H (.row false 9 [[.int .i64 0,.str [],.str [],.int .i64 0,.an,.an,.an,.int .i64 0,.int .i64 0]])))
 have g3:=J.ca bl (.row false 4 [[.int .i64 (aq T s.at_).kind,.str (aq T s.at_).text,.int .i64 (aq T s.at_).n,.int .i64 (aq T s.at_).pos]]);have eY:=af.aK bz;simp only[xD,eT] at h;obtain⟨⟨aI,s1⟩,U,aa⟩:=h;simp only[bD,dz] at aa;obtain⟨rfl,rfl⟩:=aa;cases ah:((aq T s.at_).kind==3) with
 |false=>
  simp only[ah,bi,bD] at U;simp-implicitDefEqProofs(disch:=try exact ag) only[vR,reduceAdd,reduceLeDiff,reduceIte,az,ea,Tok.v,ah];refine KS af (bz.mut _) eY.rd (k:=124) (λhy aS=> ?_) g2 g3 Z;have:=PA aH aS;rw[U] at this;exact this
 |true=>
  simp only[ah,bx] at U;simp-implicitDefEqProofs(disch:=try exact ag) only[vR,reduceAdd,reduceLeDiff,reduceIte,az,ea,Tok.v,ah];refine aY (adn _) ?_;rintro _ dc ⟨rfl,rfl⟩;refine⟨(aR.push _ _).1,?_⟩;have cO:=aR.push (bl.push (.row false 4 [[.int .i64 (aq T s.at_).kind,.str (aq T s.at_).text,.int .i64 (aq T s.at_).n,.int .i64 (aq T s.at_).pos]])) (.map uf);have rN:=aly (aq T s.at_).text (J.ca (bl.push (.row false 4 [[.int .i64 (aq T s.at_).kind,.str (aq T s.at_).text,.int .i64 (aq T s.at_).n,.int .i64 (aq T s.at_).pos]])) (.map uf));have ff:=eY.aK cO;have Yz:=cO.get g2;have If:=cO.get g3;have m5:=(bz.trans cO).mut (· =r)
  have nI:=ff.rd;unfold c1 at nI;have ar3:=ff.rd.lt;simp only[J.b6] at rN;have key:(∃k,j2 (aq T s.at_).text uf=fn k/\ ∀hy,c8 hy r T aj (aE s)->W (au P ao k [.ptr r 0 0] hy) (gE hy r T aj aI s1))\/(j2 (aq T s.at_).text uf= .nilFunc/\qP T s=(aI,s1)):=by
   by_cases t1:(aq T s.at_).text=[118,97,114]
   ·have fr:some (Ce T (aE s))=some (aI,s1):=by rw[<-U];simp[t1]
    refine .inl ⟨139,by rw[t1];rfl,λhy aS=> ?_⟩;have:=acd aS;rw[Option.some.inj fr] at this;exact this
   by_cases t2:(aq T s.at_).text=[108,101,116]
   ·have fr:some (Cj T (aE s))=some (aI,s1):=by rw[<-U];simp[t2]
    refine .inl ⟨140,by rw[t2];rfl,λhy aS=> ?_⟩;have:=acf aH aS;rw[Option.some.inj fr] at this;exact this
   by_cases t3:(aq T s.at_).text=[105,102]
   ·have fr:wR T n (aE s)=some (aI,s1):=by rw[<-U];simp[t3]
    exact .inl ⟨141,by rw[t3];rfl,λhy aS=>NK aH aS _ _ fr⟩
   by_cases t4:(aq T s.at_).text=[119,104,105,108,101]
   ·have fr:wV T n (aE s)=some (aI,s1):=by rw[<-U];simp[t4]
    exact .inl ⟨142,by rw[t4];rfl,λhy aS=>AB aH aS _ _ fr⟩
   by_cases t5:(aq T s.at_).text=[114,101,116,117,114,110]
   ·have fr:some (xz T (aE s))=some (aI,s1):=by rw[<-U];simp[t5]
    refine .inl ⟨143,by rw[t5];rfl,λhy aS=> ?_⟩;have:=acg aH aS;rw[Option.some.inj fr] at this;exact this
   by_cases t6:(aq T s.at_).text=[112,114,105,110,116]
   ·have fr:some (B1 T (aE s))=some (aI,s1):=by rw[<-U];simp[t6]
    refine .inl ⟨144,by rw[t6];rfl,λhy aS=> ?_⟩;have:=abo aH aS;rw[Option.some.inj fr] at this;exact this
   have fr:some (qP T s)=some (aI,s1):=by rw[<-U];simp[hA t1,hA t2,hA t3,hA t4,hA t5,hA t6]
   exact .inr ⟨by simp[j2,uf,hA t1,hA t2,hA t3,hA t4,hA t5,hA t6],Option.some.inj fr⟩
  rcases key with⟨k,nH,aS⟩|⟨nH,C1⟩
  ·obtain⟨m6,Ni⟩:=hT ff.rd (aE s);simp-implicitDefEqProofs(disch:=try exact ag) only[vR,reduceAdd,reduceLeDiff,reduceIte,az,ea,If,rN,nH,alE,Bool.and_self,nI,df];exact KS af (m5.trans m6) Ni aS (m6.get Yz Z) (m6.get If Z) Z
  ·simp-implicitDefEqProofs(disch:=try exact ag) only[vR,reduceAdd,reduceLeDiff,reduceIte,az,ea,If,rN,nH,aiC,Bool.and_self];refine KS af m5 ff.rd (k:=124) (λhy aS=> ?_) Yz If Z;have:=PA aH aS;rw[C1] at this;exact this
theorem Qc{H0 H:J}{r:Nat}{T:List Tok}{aj:I}{s0 s:aw}(bt:c8 H0 r T aj s0)(bM:cB r H0 H)(cp:c1 H r aj s){b lo:Nat}{a:dv}{es:List bh}{c_ bJ:List cy}{ev bv fu:I}(U:dO H (bG lo) es ev)(aa:eC H (bG lo) c_ bv)(ae:eC H (bG lo) bJ fu)(kl:H0.next<lo)
  (g2:H.get H0.next=some (.row false 9 [[.int .i64 0,.str [],.str [],.int .i64 0,.an,.an,.an,.int .i64 0,.int .i64 0]])) (g3:H.get b=some (.row false 9 [a.cells ev bv fu])):W (yZ (au P ao) (.ptr H0.next 0 0) (.ptr b 0 0) H) (gE H0 r T aj (.mk a es c_ bJ) s):=by
 have cZ:=U.gq;have dk:=aa.gq;have dJ:=ae.gq;have fB:=J.aW g2;simp only[dv.cells] at g3;simp-implicitDefEqProofs(disch:=try exact ag) only[yZ,reduceAdd,reduceLeDiff,reduceIte,az,ea,g2,g3,cZ,dk,dJ];exact a8.2 (gE.fin (a:=a) bt bM cp U aa ae (bL _) kl _)
theorem abf{n:Nat}(aT:GO n):Kz (n+1):=by
 intro H r T aj s aH af e s' h;refine cU (λ_=>aja 0) ?_;have ax:=af.rd.lt;have aU:=aR.push H (.row false 9 [[.int .i64 0,.str [],.str [],.int .i64 0,.an,.an,.an,.int .i64 0,.int .i64 0]]);simp only[wR,eT] at h;obtain⟨⟨c_,s1⟩,dS,aa⟩:=h;simp-implicitDefEqProofs(disch:=try exact ag) only[vS,reduceAdd,reduceLeDiff,reduceIte,az,ea];refine aY (yE aH (af.aK aU)) ?_;rintro v bl ⟨m2,cK,he⟩;refine⟨m2.1,?_⟩;have n2:=m2.1;simp only[J.b6] at n2;obtain⟨cs,rfl,bJ,cZ⟩:=he.cells;generalize eP T s=bc at cK he dS aa ⊢;have aO: ∀l,dH P l 96 1 [(0,.agg cs)]=some (.aM l 0 1 11 (some 1),.row false 11 [cs]):=λl=>jK l cs bJ cZ
 have g2:=m2.get (J.ca H (.row false 9 [[.int .i64 0,.str [],.str [],.int .i64 0,.an,.an,.an,.int .i64 0,.int .i64 0]])) Z;simp-implicitDefEqProofs(disch:=try exact ag) only[vS,reduceAdd,reduceLeDiff,reduceIte,az,ea,aO];have bz:=aR.push bl (.row false 11 [cs]);refine aY (aT aH (cK.aK bz) c_ s1 dS) ?_;rintro bv cu ⟨m4,fa,uC⟩;refine⟨m4.1,?_⟩;have mz:=m4.1;simp only[J.b6] at mz;have ap0:=cK.rd.lt;have lU:ec bl (bG (H.next+1)) bc.1 (.agg cs):=by simpa only[J.b6] using he
 have wi:dO cu (bG (H.next+1)) [bc.1] (.aM bl.next 0 1 11 (some 1)):=(dO.made (r:=r) lU (dE.refl _ bl) Z (lo:=H.next+1) Z Z).bo (e_.mut m4 (by unfold bG;omega) λ_ h=>h);have vL:eC cu (bG (H.next+1)) c_ bv:=uC.bo (fD.q9 λk ah=>by unfold bG at*;simp only[J.b6] at ah;omega);have nX:=vL.gq;have pf:cM P 98 [(0,.int .i64 5),(3,.aM bl.next 0 1 11 (some 1)),(4,bv)]=some (.agg (dv.cells {kind:=5} (.aM bl.next 0 1 11 (some 1)) bv .an)):=by
  rcases vL with⟨rfl,_⟩|⟨l,i,cap,ro,els,rfl,_⟩|⟨l,i,cap,rfl,_⟩<;>kernel_rfl
 have g4:=m4.get (bz.get g2) Z;have bM:=(((aU.mut (· =r)).trans m2).bV (.row false 11 [cs])).trans m4;simp only[dv.cells] at pf;simp-implicitDefEqProofs(disch:=try exact ag) only[vS,reduceAdd,reduceLeDiff,reduceIte,az,ea,pf,nX];have cO:=aR.push cu (.row false 9 [dv.cells {kind:=5} (.aM bl.next 0 1 11 (some 1)) bv .an]);refine aY (PB (fa.aK cO) 3 [101,108,115,101]) ?_;rintro _ fX ⟨rfl,m6,hC⟩;refine⟨m6.1,?_⟩;have Zo:=fa.rd.lt;have hO:=J.aW g4;have g6:=m6.get (cO.get g4) Z;have gC:=m6.get (J.ca cu (.row false 9 [dv.cells {kind:=5} (.aM bl.next 0 1 11 (some 1)) bv .an])) Z;have FF:=(bM.bV (.row false 9 [dv.cells {kind:=5} (.aM bl.next 0 1 11 (some 1)) bv .an])).trans m6
 have jT:fD cu (bG (H.next+1)) fX (bG (H.next+1)):=fD.mut ((cO.mut _).trans m6) (by unfold bG;omega) λ_ h=>h
 cases be:b4 T s1 3 [101,108,115,101] with
 |false=>
  rw[show fg T 3 [101,108,115,101] s1=(false,s1) by simp[fg,be]] at hC ⊢;simp only[be,bi,bD,dz] at aa;obtain⟨rfl,rfl⟩:=aa;simp-implicitDefEqProofs(disch:=try exact ag) only[vS,reduceAdd,reduceLeDiff,reduceIte,az,ea];exact Qc af FF hC.rd (wi.bo jT.ex) (vL.bo jT) (eC.nil _ _) Z g6 gC
 |true=>
  rw[show fg T 3 [101,108,115,101] s1=(true,aE s1) by simp[fg,be]] at hC ⊢;simp only[be,bx,eT] at aa;obtain⟨⟨cD,s2⟩,cn,ae⟩:=aa;simp only[bD,dz] at ae;obtain⟨rfl,rfl⟩:=ae;simp-implicitDefEqProofs(disch:=try exact ag) only[vS,reduceAdd,reduceLeDiff,reduceIte,az,ea];refine aY (aT aH hC cD s2 cn) ?_;rintro fu jG ⟨m8,oK,hc⟩;refine⟨m8.1,?_⟩;have Zp:=hC.rd.lt;have F6:=J.aW gC;have g8:=m8.get g6 Z;have A6:=m8.get gC Z;have apZ:=J.aW A6;have A3:=m6.1;simp only[J.b6] at A3;have ZY:=m8.1;have Jj:=hc.gq;have ap9:=A6;simp only[dv.cells] at ap9;have W7:fD cu (bG (H.next+1)) jG (bG (H.next+1)):=fD.mut (((cO.mut _).trans m6).trans m8) (by unfold bG;omega) λ_ h=>h
  have aqX:=wi.bo W7.ex;have aqV:=vL.bo W7;have se:aQ P jG 44 (.ptr cu.next 0 6) fu=some (jG.set cu.next (.row false 9 [dv.cells {kind:=5} (.aM bl.next 0 1 11 (some 1)) bv fu])):=by
   rw[LG CI A6 rfl (by rw[j_ Jj];rfl) (by rw[j_ Jj,List.all_cons,Jj];rfl) cl,j_ Jj];rfl
  simp-implicitDefEqProofs(disch:=try exact ag) only[vS,bj,bO,fE,Nat.zero_add];rw[se,lx (by simp only[J.e9];omega)];have On: ∀gW,fD jG (λl=>H.next+1<=l/\l≠cu.next) (jG.set cu.next gW) (bG (H.next+1)):=λgW=>fD.set _ (by simp) λl h=>h.1
  have YJ:fD cu (λl=>H.next+1<=l/\l<cu.next) jG (λl=>H.next+1<=l/\l≠cu.next):=fD.mut (((cO.mut _).trans m6).trans m8) Z λl h=>⟨h.1,Z⟩
  have fV:fD cu (bG (H.next+1)) cu (λl=>H.next+1<=l/\l<cu.next):=⟨λl ro els h g=>⟨⟨h,J.aW g⟩,g⟩,λl ro els h g=>⟨⟨h,J.aW g⟩,g⟩⟩;refine Qc af (H:=jG.set cu.next (.row false 9 [dv.cells {kind:=5} (.aM bl.next 0 1 11 (some 1)) bv fu])) ((FF.trans m8).de (.inr Z) _) ?_ (((wi.bo fV.ex).bo YJ.ex).bo (On _).ex) (((vL.bo fV).bo YJ).bo (On _)) ((hc.bo (fD.q9 (ok':=λl=>H.next+1<=l/\l≠cu.next) λk ah=>by unfold bG at ah;omega)).bo (On _)) (Nat.lt_succ_self _) ?_ (J.get_set_same apZ)
  ·have Fp:=oK.rd;unfold c1 at Fp ⊢;rw[J.get_set_other Z];exact Fp
  ·rw[J.get_set_other Z];exact g8
theorem abC{n:Nat}(aT:GO n):KB (n+1):=by
 intro H r T aj s aH af e s' h;refine cU (λ_=>ajb 0) ?_;have ax:=af.rd.lt;have aU:=aR.push H (.row false 9 [[.int .i64 0,.str [],.str [],.int .i64 0,.an,.an,.an,.int .i64 0,.int .i64 0]]);simp only[wV,eT] at h;obtain⟨⟨c_,s1⟩,dS,aa⟩:=h;simp only[bD,dz] at aa;obtain⟨rfl,rfl⟩:=aa;simp-implicitDefEqProofs(disch:=try exact ag) only[CC,reduceAdd,reduceLeDiff,reduceIte,az,ea];refine aY (yE aH (af.aK aU)) ?_;rintro v bl ⟨m2,cK,he⟩;refine⟨m2.1,?_⟩;have n2:=m2.1;simp only[J.b6] at n2;obtain⟨cs,rfl,bJ,cZ⟩:=he.cells;generalize eP T s=bc at cK he dS ⊢;have aO: ∀l,dH P l 96 1 [(0,.agg cs)]=some (.aM l 0 1 11 (some 1),.row false 11 [cs]):=λl=>jK l cs bJ cZ
 have g2:=m2.get (J.ca H (.row false 9 [[.int .i64 0,.str [],.str [],.int .i64 0,.an,.an,.an,.int .i64 0,.int .i64 0]])) Z;simp-implicitDefEqProofs(disch:=try exact ag) only[CC,reduceAdd,reduceLeDiff,reduceIte,az,ea,aO];have bz:=aR.push bl (.row false 11 [cs]);refine aY (aT aH (cK.aK bz) c_ s1 dS) ?_;rintro bv cu ⟨m4,fa,uC⟩;refine⟨m4.1,?_⟩;have mz:=m4.1;simp only[J.b6] at mz;have ap0:=cK.rd.lt;have lU:ec bl (bG (H.next+1)) bc.1 (.agg cs):=by simpa only[J.b6] using he
 have wi:dO cu (bG (H.next+1)) [bc.1] (.aM bl.next 0 1 11 (some 1)):=(dO.made (r:=r) lU (dE.refl _ bl) Z (lo:=H.next+1) Z Z).bo (e_.mut m4 (by unfold bG;omega) λ_ h=>h);have vL:eC cu (bG (H.next+1)) c_ bv:=uC.bo (fD.q9 λk ah=>by unfold bG at*;simp only[J.b6] at ah;omega);have nX:=vL.gq;have pf:cM P 98 [(0,.int .i64 6),(3,.aM bl.next 0 1 11 (some 1)),(4,bv)]=some (.agg (dv.cells {kind:=6} (.aM bl.next 0 1 11 (some 1)) bv .an)):=by
  rcases vL with⟨rfl,_⟩|⟨l,i,cap,ro,els,rfl,_⟩|⟨l,i,cap,rfl,_⟩<;>kernel_rfl
 have g4:=m4.get (bz.get g2) Z;have hO:=J.aW g4;simp only[dv.cells] at pf;simp-implicitDefEqProofs(disch:=try exact ag) only[CC,reduceAdd,reduceLeDiff,reduceIte,az,ea,pf,nX,g4];exact a8.2 (gE.fin (a:={kind:=6}) af ((((aU.mut _).trans m2).bV _).trans m4) fa.rd wi vL (eC.nil _ _) (bL _) (Nat.lt_succ_self _) _)
structure am4(n:Nat):Prop where
 stmt:D5 n
 block:GO n
 choose:Kz n
 rep:KB n
theorem am8: ∀n,n<=900000000->am4 n:=by
 intro n
 induction n using Nat.strongRecOn with
 |_ n aT=>
  intro aV;cases n with
  |zero=>exact⟨λ_ _ _ _ h=>by simp[xD] at h,λ_ _ _ _ h=>by simp[oU] at h,λ_ _ _ _ h=>by simp[wR] at h,λ_ _ _ _ h=>by simp[wV] at h⟩
  |succ n=>
   have i:=aT n Z Z;exact⟨afj i.choose i.rep,abY Z λk ah=>(aT k Z Z).stmt,abf i.block,abC i.block⟩
end
section
theorem agD(aj:I)(U:aj.one=true)(a b:Int):cM P 112 [(0,aj),(1,.int .i64 a),(2,.int .i64 b)]=some (.agg [aj,.int .i64 a,.int .i64 b,.int .i64 0,.int .i64 0]):=by
 cases aj<;>first|(cases U;done)|kernel_rfl
theorem abn{n:Nat}(aV:n<=900000000){H:J}{T:List Tok}{aj:I}(aH:T.length<=20000000)(bC:h9 H aj T)(at_ bN:Int){l:List cy}{s':aw}(h:oU T n (lE at_ bN)=some (l,s')):
  W (au P ao 55 [aj,.int .i64 at_,.int .i64 bN] H) λv H'=> ∃bv,v= .tuple [bv,.int .i64 (iL l s').2.1,.agg [.int .i64 (iL l s').2.2.1,.int .i64 (iL l s').2.2.2]]/\eC H' (bG H.next) (iL l s').1 bv/\aR H H':=by
 refine cU (λ_=>amj 0) ?_;have df:=bC.one;have aU:=aR.push H (.row false 2 [[.int .i64 0,.int .i64 0]]);have pf:=agD aj df at_ (if bN<0 then 0 else bN);have ic: ∀l,eW l (.agg [aj,.int .i64 at_,.int .i64 (if bN<0 then 0 else bN),.int .i64 0,.int .i64 0])=some (.ptr l 0 0,.row false 5 [[aj,.int .i64 at_,.int .i64 (if bN<0 then 0 else bN),.int .i64 0,.int .i64 0]]):=λl=>ij l _ (by simp only[List.all_cons,List.all_nil,iy,df,Bool.and_self])
 simp-implicitDefEqProofs(disch:=try exact ag) only[AJ,reduceAdd,reduceLeDiff,reduceIte,az,Zq,pf,ic];have uB:=J.ca H (.row false 2 [[.int .i64 0,.int .i64 0]]);have Nt:(H.push (.row false 2 [[.int .i64 0,.int .i64 0]])).next=H.next+1:=by simp only[J.b6]
 rw[<-Nt];generalize H.push (.row false 2 [[.int .i64 0,.int .i64 0]])=cQ at aU uB Nt ⊢;have bK:=aR.push cQ (.row false 5 [[aj,.int .i64 at_,.int .i64 (if bN<0 then 0 else bN),.int .i64 0,.int .i64 0]]);have cO:=aU.trans bK;have fa:c8 (cQ.push (.row false 5 [[aj,.int .i64 at_,.int .i64 (if bN<0 then 0 else bN),.int .i64 0,.int .i64 0]])) cQ.next T aj (lE at_ bN):=
  ⟨J.ca _ _,bC.aK cO⟩
 refine aY ((am8 n aV).block aH fa l s' h) ?_;rintro v dc ⟨m5,ff,pg⟩;refine⟨m5.1,?_⟩;have ya:=m5.1;simp only[J.b6] at ya pg;simp-implicitDefEqProofs(disch:=try exact ag) only[AJ,reduceAdd,reduceLeDiff,reduceIte,az];refine aY (Bb ff.rd) ?_;rintro _ jG ⟨rfl,rfl⟩;refine⟨bL _,?_⟩;have nI:=ff.rd;unfold c1 at nI;have sT:=m5.get (bK.get uB) Z;have Oo:=J.aW sT;have nf:aR H jG:=⟨by have:=cO.1;simp only[J.b6] at this;omega,λl ax=>by rw[m5.2 l (by simp only[J.b6];omega) Z];exact cO.2 l ax⟩;by_cases ak:s'.aA=0
 ·have eX:(s'.aA != 0)=false:=by simpa using ak
  rw[show iL l s'=(l,s'.at_,0,0) by simp[iL,ak]];simp-implicitDefEqProofs(disch:=try exact ag) only[AJ,reduceAdd,reduceLeDiff,reduceIte,az,eX,nI,sT];refine a8.2 ⟨_,rfl,pg.bo (fD.set _ (by unfold bG;omega) λl h=>by unfold bG at*;omega),nf.de Z _⟩
 ·have eX:(s'.aA != 0)=true:=by simpa using ak
  rw[show iL l s'=([],0,s'.aA,s'.cw) by simp[iL,ak]];simp-implicitDefEqProofs(disch:=try exact ag) only[AJ,reduceAdd,reduceLeDiff,reduceIte,az,eX,nI,sT];exact a8.2 ⟨_,rfl,eC.nil _ _,nf.de Z _⟩
end
section
set_option maxRecDepth 100000
noncomputable section
def zJ(G:av)(N:Nat)(ap aC bB:I)(H:J):O:=
 aL H (G 17 [bB] H) λgS U=>
 bQ (some gS) (a1 U (aQ P U 26 ap (.agg [I.an,I.an,I.an])) λaa=>
 ab (b7 bB) λh1=>
 ab (aF P 55 h1 3) λhV=>
 ab (am P aa 29 hV) λgx=>
 a1 aa (aQ P aa 29 aC gx) λae=>
 bif ((cd (am P U 29 hV) gx&&(cd (am P aa 29 hV) gx&&true))&&true) then(ab (am P ae 26 ap) λr=>
 ab (am P ae 29 aC) λmq=>
 some (.tuple [r,mq],ae)) else none) (ab (b7 bB) λjQ=>
 ab (aF P 55 jQ 2) λiR=>
 ab (am P U 26 iR) λnL=>
 a1 U (aQ P U 26 ap nL) λaa=>
 a1 aa (aQ P aa 29 aC (.agg [(.int .i64 0),(.int .i64 0)])) λae=>
 ab (am P ae 26 ap) λr=>
 ab (am P ae 29 aC) λmq=>
 some (.tuple [r,mq],ae))
theorem aga(G:av)(N:Nat): ∀R H,cA P G N (Code.snd (Code.snd (Code.snd (Code.snd (Code.snd (di Tryz.f8)))))) (b_ Tryz.f8) [] (b_ Tryz.f8) R H=zJ G N (R 2) (R 3) (R 6) H:=by
 refine ds (aN _) λR H=> ?_
 delta zJ;kernel_rfl
def Hz(G:av)(N:Nat)(bE:I->I->I->J->O)(ap aC bB:I)(H:J):O:=
 aL H (G 17 [bB] H) λcz U=>
 ab (fh .not cz) λc7=>
 aD c7 true U (dw bB) λdb aa=>
 aD c7 true aa (λq=>fo aa (G 18 [db] aa) q) λdn ae=>
 aD c7 true ae (bm (d8 P 57 dn 0)) λdu al=>
 aD c7 true al (bm (aZ P .neq 3 true du (.int .i64 0))) λdh aB=>
 ab (cW c7 (some dh) (some (.bool false))) λdT=>
 bQ (some dT) (aL aB (G 19 [bB,(.int .i64 3),(.str [114,101,99,111,114,100])] aB) λef aG=>
 bQ (some ef) (aL aG (G 20 [bB] aG) λeg aP=>
 bE ap aC bB aP) (aL aG (G 19 [bB,(.int .i64 3),(.str [103,108,111,98,97,108])] aG) λfj aP=>
 bQ (some fj) (aL aP (G 21 [bB] aP) λe7 bn=>
 bE ap aC bB bn) (aL aP (G 19 [bB,(.int .i64 3),(.str [102,117,110,99])] aP) λgv bn=>
 bQ (some gv) (aL bn (G 22 [bB] bn) λgw bH=>
 bE ap aC bB bH) (aL bn (G 23 [bB,(.int .i64 2)] bn) λcH bH=>
 bE ap aC bB bH)))) (zJ G N ap aC bB aB)
def zK(G:av)(N:Nat):Nat->I->I->I->J->O
 |0,_,_,_,_=>none
 |n+1,ap,aC,bB,H=>Hz G N (zK G N n) ap aC bB H
theorem af_(G:av)(N:Nat)(bE:I->I->I->J->O): ∀R H,cA P G N (Code.fst (Code.fst (Code.fst (Code.snd (Code.snd (Code.snd (Code.snd (di Tryz.f8)))))))) (λR H=>bE (R 2) (R 3) (R 6) H) [(0,(λR H=>zJ G N (R 2) (R 3) (R 6) H))] (b_ Tryz.f8) R H=Hz G N bE (R 2) (R 3) (R 6) H:=by
 refine ds (aN _) λR H=> ?_
 delta Hz;generalize zJ G N=ba;revert ba;refine id ?_;intro ba;kernel_rfl
def Jm(G:av)(N:Nat)(Y:I)(H:J):O:=
 cv H [I.an,I.an,I.an] λap U=>
 cv U [(.int .i64 0),(.int .i64 0)] λaC aa=>
 aL aa (G 16 [Y] aa) λbF ae=>
 ab (gf bF 0) λcr=>
 ab (gf bF 1) λb8=>
 cv ae [(.int .i64 0),(.int .i64 0)] λbf al=>
 a1 al (aQ P al 29 bf b8) λaB=>
 ab (aF P 29 bf 0) λcb=>
 ab (am P aB 27 cb) λb0=>
 ab (aZ P .neq 27 true b0 (.int .i64 0)) λbT=>
 bQ (some bT) (a1 aB (aQ P aB 26 ap (.agg [I.an,I.an,I.an])) λaG=>
 ab (am P aG 29 bf) λbI=>
 a1 aG (aQ P aG 29 aC bI) λaP=>
 bif ((cd (am P aB 29 bf) bI&&(cd (am P aG 29 bf) bI&&true))&&true) then(ab (am P aP 26 ap) λr=>
 ab (am P aP 29 aC) λmq=>
 some (.tuple [r,mq],aP)) else none) (ab (cM P 55 [(0,cr)]) λcG=>
 dA aB (eW (aB).next cG) λc6 aG=>
 zK G N N ap aC c6 aG)
theorem amV(G:av)(N:Nat)(Y:I)(H:J):bp Tryz.f8 G N (cF [Y]) H=Jm G N Y H:=by
 refine cP (A:=bp Tryz.f8 G N) ((br ad ((br ad ((br ad ((br ad ((br ad (aga G N) ((fL ad ((gD (k:=λm R H=>zK G N m (R 2) (R 3) (R 6) H) ad (λR H=>ad) (λm=>af_ G N (zK G N m)))))))) (aN _))) (aN _))) (aN _))) (aN _))) ?_;delta Jm;generalize zK G N N=ba;revert ba;refine id ?_;intro ba;kernel_rfl
theorem aoe(N:Nat){Y:I}{H:J}{r:I×J}(h:Jm (au P ao) N Y H=some r):au P ao 8 [Y] H=some r:=
 cV ad Tryz.func8 ad ad ad ((amV (au P ao) N Y H).trans h)
def IH(G:av)(Y:I)(H:J):O:=
 ab (b7 Y) λa_=>
 ab (aF P 55 a_ 3) λbf=>
 ab (aF P 29 bf 0) λbB=>
 ab (am P H 27 bB) λbu=>
 ab (aZ P .neq 27 true bu (.int .i64 0)) λbS=>
 some (bS,H)
theorem ajM(G:av)(N:Nat)(Y:I)(H:J):bp Tryz.f17 G N (cF [Y]) H=IH G Y H:=by
 refine cP (A:=bp Tryz.f17 G N) (aN _) ?_;delta IH;kernel_rfl
theorem alN(N:Nat){Y:I}{H:J}{r:I×J}(h:IH (au P ao) Y H=some r):au P ao 17 [Y] H=some r:=
 cV ad Tryz.func17 ad ad ad ((ajM (au P ao) N Y H).trans h)
def II(G:av)(Y:I)(H:J):O:=
 cv H [(.int .i64 0),(.str []),(.int .i64 0),(.int .i64 0)] λap U=>
 ab (b7 Y) λa_=>
 ab (aF P 55 a_ 0) λbf=>
 ab (am P U 50 bf) λbB=>
 ab (b7 Y) λbS=>
 ab (aF P 55 bS 1) λbF=>
 ab (am P U 3 bF) λcr=>
 ab (b7 Y) λcb=>
 ab (aF P 55 cb 0) λb0=>
 ab (am P U 50 b0) λbT=>
 ia (dC P .empty .len [50] [bT]) (dC P U .len [50] [bT]) λgY=>
 ab (aZ P .sub 3 true gY.val (.int .i64 1)) λbI=>
 ia (dC P .empty .min [3,3] [cr,bI]) (dC P (gY.heap U) .min [3,3] [cr,bI]) λjL=>
 ab (en P 50 bB jL.val) λcG=>
 ab (am P (jL.heap (gY.heap U)) 57 cG) λc6=>
 FV (jL.heap (gY.heap U)) (aQ P (jL.heap (gY.heap U)) 57 ap c6) λy aa=>
 bif qY [0,1,3,7,0,16,48,112,0,256,768,1792,3840,7936,16368,32767,65535,131071] [0,1,2,3,4,5,6,7,8,9,10,11,12,13,14,15,16,17] [⟨0,(.pure Y),λH=>none⟩,⟨1,(.pure a_),λH=>none⟩,⟨2,(.pure bf),λH=>none⟩,⟨3,(.read bB),λH=>am P H 50 bf⟩,⟨4,(.pure Y),λH=>none⟩,⟨5,(.pure bS),λH=>none⟩,⟨6,(.pure bF),λH=>none⟩,⟨7,(.read cr),λH=>am P H 3 bF⟩,⟨8,(.pure Y),λH=>none⟩,⟨9,(.pure cb),λH=>none⟩,⟨10,(.pure b0),λH=>none⟩,⟨11,(.read bT),λH=>am P H 50 b0⟩,⟨12,gY,λH=>dC P H .len [50] [bT]⟩,⟨13,(.pure bI),λH=>none⟩,⟨14,jL,λH=>dC P H .min [3,3] [cr,bI]⟩,⟨15,(.pure cG),λH=>none⟩,⟨16,(.read c6),λH=>am P H 57 cG⟩,⟨17,(.gX y aa),λH=>none⟩] U then(ab (am P aa 57 ap) λr=>
 some (r,aa)) else none
theorem ajN(G:av)(N:Nat)(Y:I)(H:J):bp Tryz.f18 G N (cF [Y]) H=II G Y H:=by
 refine cP (A:=bp Tryz.f18 G N) (aN _) ?_;delta II;kernel_rfl
theorem alO(N:Nat){Y:I}{H:J}{r:I×J}(h:II (au P ao) Y H=some r):au P ao 18 [Y] H=some r:=
 cV ad Tryz.func18 ad ad ad ((ajN (au P ao) N Y H).trans h)
def IJ(G:av)(Y ai ap:I)(H:J):O:=
 aL H (G 18 [Y] H) λbF U=>
 cv U [(.int .i64 0),(.str []),(.int .i64 0),(.int .i64 0)] λbu aa=>
 a1 aa (aQ P aa 57 bu bF) λae=>
 aL ae (G 17 [Y] ae) λb8 al=>
 ab (fh .not b8) λcb=>
 aD cb true al (bm (aF P 57 bu 0)) λbT aB=>
 aD cb true aB (qr (am P aB 3 bT)) λbX aG=>
 aD cb true aG (dw ai) λbI aP=>
 aD cb true aP (bm (aZ P .eql 3 false bX bI)) λcc bn=>
 ab (cW cb (some cc) (some (.bool false))) λcG=>
 aD cG true bn (bm (aF P 57 bu 1)) λcN bH=>
 aD cG true bH (qr (am P bH 9 cN)) λcz co=>
 aD cG true co (dw ap) λc7 dp=>
 aD cG true dp (bm (aZ P .eql 9 false cz c7)) λcI dR=>
 ab (cW cG (some cI) (some (.bool false))) λdb=>
 some (db,dR)
theorem ajO(G:av)(N:Nat)(Y:I)(ai:I)(ap:I)(H:J):bp Tryz.f19 G N (cF [Y,ai,ap]) H=IJ G Y ai ap H:=by
 refine cP (A:=bp Tryz.f19 G N) (aN _) ?_;delta IJ;kernel_rfl
theorem alP(N:Nat){Y ai ap:I}{H:J}{r:I×J}(h:IJ (au P ao) Y ai ap H=some r):au P ao 19 [Y,ai,ap] H=some r:=
 cV ad Tryz.func19 ad ad ad ((ajO (au P ao) N Y ai ap H).trans h)
def zg(G:av)(N:Nat)(Y aC:I)(H:J):O:=
 aL H (G 50 [Y,(.str [125])] H) λiR U=>
 ab (b7 Y) λkR=>
 ab (aF P 55 kR 2) λnM=>
 ab (aF P 26 nM 0) λjF=>
 ab (am P U 22 jF) λrc=>
 ab (am P U 41 aC) λjR=>
 dA U (dH P (U).next 22 1 [(0,jR)]) λlq aa=>
 aL aa (fM P aa [22,22] rc lq) λnN ae=>
 ab (b7 Y) λmw=>
 ab (aF P 55 mw 2) λoN=>
 ab (aF P 26 oN 0) λpq=>
 a1 ae (aQ P ae 22 pq nN) λal=>
 bif ((cd (am P U 22 jF) rc&&(cd (am P aa 22 jF) rc&&true))&&true) then(some (.tuple [],al)) else none
theorem aed(G:av)(N:Nat): ∀R H,cA P G N (Code.snd (Code.snd (Code.snd (Code.snd (Code.snd (Code.snd (di Tryz.f20))))))) (b_ Tryz.f20) [] (b_ Tryz.f20) R H=zg G N (R 0) (R 3) H:=by
 refine ds (aN _) λR H=> ?_
 delta zg;kernel_rfl
def G_(G:av)(N:Nat)(bE:I->I->J->O)(Y aC:I)(H:J):O:=
 aL H (G 17 [Y] H) λdI U=>
 ab (fh .not dI) λcH=>
 aD cH true U (dw Y) λdV aa=>
 aD cH true aa (λq=>fo aa (G 19 [dV,(.int .i64 4),(.str [125])] aa) q) λef ae=>
 aD cH true ae (bm (fh .not ef)) λe6 al=>
 ab (cW cH (some e6) (some (.bool false))) λeg=>
 bQ (some eg) (aL al (G 18 [Y] al) λfj aB=>
 ab (d8 P 57 fj 0) λft=>
 ab (aZ P .eql 3 true ft (.int .i64 1)) λe7=>
 ab (aF P 41 aC 1) λfy=>
 ab (am P aB 23 fy) λfW=>
 ia (dC P .empty .len [23] [fW]) (dC P aB .len [23] [fW]) λgY=>
 aL (gY.heap aB) (G 48 [Y,e7,gY.val,(.int .i64 8)] (gY.heap aB)) λeU aG=>
 bif qY [0,0,2,6,14,0,32,96,255] [1,2,3,4,8] [⟨1,(.pure Y),λH=>none⟩,⟨2,(.gX fj aB),λH=>none⟩,⟨0,(.pure Y),λH=>none⟩,⟨3,(.pure ft),λH=>none⟩,⟨4,(.pure e7),λH=>none⟩,⟨5,(.pure fy),λH=>none⟩,⟨6,(.read fW),λH=>am P H 23 fy⟩,⟨7,gY,λH=>dC P H .len [23] [fW]⟩,⟨8,(.gX eU aG),λH=>none⟩] al then(aL aG (G 51 [Y] aG) λju aP=>
 ab (aF P 41 aC 1) λgw=>
 ab (am P aP 23 gw) λgb=>
 dA aP (dH P (aP).next 23 1 [(0,ju)]) λhv bn=>
 aL bn (fM P bn [23,23] gb hv) λh1 bH=>
 ab (aF P 41 aC 1) λhV=>
 a1 bH (aQ P bH 23 hV h1) λco=>
 bif ((cd (am P aG 23 gw) gb&&(cd (am P aP 23 gw) gb&&(cd (am P bn 23 gw) gb&&true)))&&true) then(aL co (G 50 [Y,(.str [59])] co) λkm dp=>
 bE Y aC dp) else none) else none) (zg G N Y aC al)
def zh(G:av)(N:Nat):Nat->I->I->J->O
 |0,_,_,_=>none
 |n+1,Y,aC,H=>G_ G N (zh G N n) Y aC H
theorem aec(G:av)(N:Nat)(bE:I->I->J->O): ∀R H,cA P G N (Code.fst (Code.fst (Code.fst (Code.snd (Code.snd (Code.snd (Code.snd (Code.snd (di Tryz.f20))))))))) (λR H=>bE (R 0) (R 3) H) [(0,(λR H=>zg G N (R 0) (R 3) H))] (b_ Tryz.f20) R H=G_ G N bE (R 0) (R 3) H:=by
 refine ds (aN _) λR H=> ?_
 delta G_;generalize zg G N=ba;revert ba;refine id ?_;intro ba;kernel_rfl
def IK(G:av)(N:Nat)(Y:I)(H:J):O:=
 ab (b7 Y) λbB=>
 ab (aF P 55 bB 2) λbu=>
 ab (aF P 26 bu 0) λbS=>
 ab (am P H 22 bS) λbF=>
 bj P .len [22] [bF] H λcr=>
 aL H (G 48 [Y,(.bool true),cr,(.int .i64 12)] H) λb8 U=>
 ab (b7 Y) λb0=>
 ab (aF P 55 b0 1) λbT=>
 ab (am P U 3 bT) λbX=>
 ab (aZ P .add 3 true bX (.int .i64 1)) λbI=>
 ab (b7 Y) λcc=>
 ab (aF P 55 cc 1) λcG=>
 a1 U (aQ P U 3 cG bI) λaa=>
 aL aa (G 49 [Y] aa) λcN ae=>
 cv ae [(.int .i64 0),(.str []),(.int .i64 0),(.int .i64 0)] λap al=>
 a1 al (aQ P al 57 ap cN) λaB=>
 ab (aF P 57 ap 1) λcz=>
 ab (am P aB 9 cz) λc7=>
 ab (aF P 57 ap 3) λcI=>
 ab (am P aB 3 cI) λdb=>
 ab (cM P 41 [(0,c7),(2,db)]) λdn=>
 cv aB [(.str []),I.an,(.int .i64 0)] λaC aG=>
 a1 aG (aQ P aG 41 aC dn) λaP=>
 aL aP (G 50 [Y,(.str [123])] aP) λdh bn=>
 zh G N N Y aC bn
theorem ajP(G:av)(N:Nat)(Y:I)(H:J):bp Tryz.f20 G N (cF [Y]) H=IK G N Y H:=by
 refine cP (A:=bp Tryz.f20 G N) ((br ad ((br ad ((br ad ((br ad ((br ad ((br ad (aed G N) ((fL ad ((gD (k:=λm R H=>zh G N m (R 0) (R 3) H) ad (λR H=>ad) (λm=>aec G N (zh G N m)))))))) (aN _))) (aN _))) (aN _))) (aN _))) (aN _))) ?_;delta IK;generalize zh G N N=ba;revert ba;refine id ?_;intro ba;kernel_rfl
theorem alQ(N:Nat){Y:I}{H:J}{r:I×J}(h:IK (au P ao) N Y H=some r):au P ao 20 [Y] H=some r:=
 cV ad Tryz.func20 ad ad ad ((ajP (au P ao) N Y H).trans h)
def IL(G:av)(Y:I)(H:J):O:=
 ab (b7 Y) λbf=>
 ab (aF P 55 bf 2) λbB=>
 ab (aF P 26 bB 1) λbu=>
 ab (am P H 23 bu) λbS=>
 bj P .len [23] [bS] H λbF=>
 aL H (G 48 [Y,(.bool true),bF,(.int .i64 8)] H) λcr U=>
 ab (b7 Y) λcb=>
 ab (aF P 55 cb 1) λb0=>
 ab (am P U 3 b0) λbT=>
 ab (aZ P .add 3 true bT (.int .i64 1)) λbX=>
 ab (b7 Y) λbI=>
 ab (aF P 55 bI 1) λcc=>
 a1 U (aQ P U 3 cc bX) λaa=>
 aL aa (G 51 [Y] aa) λc6 ae=>
 cv ae [(.str []),(.str []),(.int .i64 0),(.int .i64 0)] λap al=>
 a1 al (aQ P al 66 ap c6) λaB=>
 aL aB (G 50 [Y,(.str [59])] aB) λcz aG=>
 ab (b7 Y) λdb=>
 ab (aF P 55 db 2) λdn=>
 ab (aF P 26 dn 1) λdu=>
 ab (am P aG 23 du) λdh=>
 ab (am P aG 66 ap) λdT=>
 dA aG (dH P (aG).next 23 1 [(0,dT)]) λdI aP=>
 aL aP (fM P aP [23,23] dh dI) λcH bn=>
 ab (b7 Y) λep=>
 ab (aF P 55 ep 2) λdV=>
 ab (aF P 26 dV 1) λef=>
 a1 bn (aQ P bn 23 ef cH) λbH=>
 bif ((cd (am P aG 23 du) dh&&(cd (am P aP 23 du) dh&&true))&&true) then(some (.tuple [],bH)) else none
theorem ajQ(G:av)(N:Nat)(Y:I)(H:J):bp Tryz.f21 G N (cF [Y]) H=IL G Y H:=by
 refine cP (A:=bp Tryz.f21 G N) (aN _) ?_;delta IL;kernel_rfl
theorem alR(N:Nat){Y:I}{H:J}{r:I×J}(h:IL (au P ao) Y H=some r):au P ao 21 [Y] H=some r:=
 cV ad Tryz.func21 ad ad ad ((ajQ (au P ao) N Y H).trans h)
def zi(G:av)(N:Nat)(Y aC:I)(H:J):O:=
 aL H (G 17 [Y] H) λhv U=>
 bQ (some hv) (some (.tuple [],U)) (ab (b7 Y) λgx=>
 ab (aF P 55 gx 0) λkm=>
 ab (am P U 50 km) λjQ=>
 ab (b7 Y) λnL=>
 ab (aF P 55 nL 1) λwx=>
 ab (am P U 3 wx) λkR=>
 aL U (G 55 [jQ,kR,(.int .i64 0)] U) λnM aa=>
 ab (gf nM 0) λjF=>
 ab (gf nM 1) λrc=>
 ab (gf nM 2) λjR=>
 cv aa [(.int .i64 0),(.int .i64 0)] λbB ae=>
 a1 ae (aQ P ae 29 bB jR) λal=>
 bif ((cd (am P U 50 km) jQ&&true)&&((cd (am P U 3 wx) kR&&true)&&true)) then(ab (am P al 29 bB) λmw=>
 aL al (G 56 [Y,rc,mw] al) λoN aB=>
 ab (aF P 46 aC 4) λhn=>
 a1 aB (aQ P aB 44 hn jF) λaG=>
 ab (b7 Y) λnO=>
 ab (aF P 55 nO 2) λpr=>
 ab (aF P 26 pr 2) λmY=>
 ab (am P aG 24 mY) λnP=>
 ab (am P aG 46 aC) λwy=>
 dA aG (dH P (aG).next 24 1 [(0,wy)]) λqq aP=>
 aL aP (fM P aP [24,24] nP qq) λuP bn=>
 ab (b7 Y) λAO=>
 ab (aF P 55 AO 2) λuQ=>
 ab (aF P 26 uQ 2) λqs=>
 a1 bn (aQ P bn 24 qs uP) λbH=>
 bif ((cd (am P aG 24 mY) nP&&(cd (am P aP 24 mY) nP&&true))&&true) then(some (.tuple [],bH)) else none) else none)
theorem aeg(G:av)(N:Nat): ∀R H,cA P G N (Code.snd (Code.snd (Code.snd (Code.snd (Code.snd (Code.snd (Code.snd (Code.snd (di Tryz.f22))))))))) (b_ Tryz.f22) [] (b_ Tryz.f22) R H=zi G N (R 0) (R 3) H:=by
 refine ds (aN _) λR H=> ?_
 delta zi;kernel_rfl
def vj(G:av)(N:Nat)(Y aC:I)(H:J):O:=
 aL H (G 50 [Y,(.str [41])] H) λfy U=>
 aL U (G 53 [Y,(.int .i64 4),(.str [58])] U) λgv aa=>
 bQ (some gv) (aL aa (G 54 [Y] aa) λgw ae=>
 ab (aF P 46 aC 2) λgb=>
 a1 ae (aQ P ae 4 gb (.bool true)) λal=>
 ab (aF P 46 aC 3) λgS=>
 a1 al (aQ P al 43 gS gw) λaB=>
 zi G N Y aC aB) (zi G N Y aC aa)
theorem aef(G:av)(N:Nat): ∀R H,cA P G N (Code.snd (Code.snd (Code.snd (Code.snd (Code.snd (Code.snd (di Tryz.f22))))))) (b_ Tryz.f22) [] (b_ Tryz.f22) R H=vj G N (R 0) (R 3) H:=by
 refine ds ((br ad ((br ad (aeg G N) (aN _))) (aN _))) λR H=> ?_
 delta vj;generalize zi G N=ba;revert ba;refine id ?_;intro ba;kernel_rfl
def Ha(G:av)(N:Nat)(h2:I->I->J->O)(Y aC:I)(H:J):O:=
 aL H (G 53 [Y,(.int .i64 4),(.str [44])] H) λed U=>
 bQ (some ed) (aL U (G 52 [Y,aC] U) λft aa=>
 h2 Y aC aa) (vj G N Y aC U)
def zj(G:av)(N:Nat):Nat->I->I->J->O
 |0,_,_,_=>none
 |n+1,Y,aC,H=>Ha G N (zj G N n) Y aC H
theorem aee(G:av)(N:Nat)(h2:I->I->J->O): ∀R H,cA P G N (Code.fst (Code.fst (Code.snd (Code.fst (Code.snd (Code.fst (Code.snd (Code.snd (Code.snd (Code.snd (Code.snd (di Tryz.f22)))))))))))) (λR H=>h2 (R 0) (R 3) H) [(0,(λR H=>vj G N (R 0) (R 3) H))] (b_ Tryz.f22) R H=Ha G N h2 (R 0) (R 3) H:=by
 refine ds (aN _) λR H=> ?_
 delta Ha;generalize vj G N=ba;revert ba;refine id ?_;intro ba;kernel_rfl
def IM(G:av)(N:Nat)(Y:I)(H:J):O:=
 ab (b7 Y) λbF=>
 ab (aF P 55 bF 2) λcr=>
 ab (aF P 26 cr 2) λb8=>
 ab (am P H 24 b8) λcb=>
 bj P .len [24] [cb] H λb0=>
 aL H (G 48 [Y,(.bool true),b0,(.int .i64 16)] H) λbT U=>
 ab (b7 Y) λbI=>
 ab (aF P 55 bI 1) λcc=>
 ab (am P U 3 cc) λcG=>
 ab (aZ P .add 3 true cG (.int .i64 1)) λc6=>
 ab (b7 Y) λcN=>
 ab (aF P 55 cN 1) λcz=>
 a1 U (aQ P U 3 cz c6) λaa=>
 aL aa (G 49 [Y] aa) λcI ae=>
 cv ae [(.int .i64 0),(.str []),(.int .i64 0),(.int .i64 0)] λap al=>
 a1 al (aQ P al 57 ap cI) λaB=>
 ab (aF P 57 ap 1) λdb=>
 ab (am P aB 9 db) λdn=>
 ab (aF P 57 ap 3) λdu=>
 ab (am P aB 3 du) λdh=>
 ab (cM P 46 [(0,dn),(5,dh)]) λdT=>
 cv aB [(.str []),I.an,(.bool false),(.str []),(.int .i64 0),I.an,(.int .i64 0)] λaC aG=>
 a1 aG (aQ P aG 46 aC dT) λaP=>
 aL aP (G 50 [Y,(.str [40])] aP) λcH bn=>
 aL bn (G 19 [Y,(.int .i64 4),(.str [41])] bn) λdV bH=>
 ab (fh .not dV) λef=>
 bQ (some ef) (aL bH (G 52 [Y,aC] bH) λeg co=>
 zj G N N Y aC co) (vj G N Y aC bH)
theorem ajR(G:av)(N:Nat)(Y:I)(H:J):bp Tryz.f22 G N (cF [Y]) H=IM G N Y H:=by
 refine cP (A:=bp Tryz.f22 G N) ((br ad ((br ad ((br ad ((br ad ((br ad ((br ad (aef G N) ((br ad ((qF ad ((br ad ((fL ad ((gD (k:=λm R H=>zj G N m (R 0) (R 3) H) ad (λR H=>ad) (λm=>aee G N (zj G N m)))))) (aN _))) (aN _))) (aN _))))) (aN _))) (aN _))) (aN _))) (aN _))) (aN _))) ?_;delta IM;generalize vj G N=ba;generalize zj G N N=lZ;revert ba lZ;refine id ?_;intro ba lZ;kernel_rfl
theorem alS(N:Nat){Y:I}{H:J}{r:I×J}(h:IM (au P ao) N Y H=some r):au P ao 22 [Y] H=some r:=
 cV ad Tryz.func22 ad ad ad ((ajR (au P ao) N Y H).trans h)
def FI(G:av)(Y ai:I)(H:J):O:=
 aL H (G 17 [Y] H) λbf U=>
 ab (fh .not bf) λbB=>
 bQ (some bB) (aL U (G 18 [Y] U) λcr aa=>
 ab (d8 P 57 cr 3) λb8=>
 ab (cM P 29 [(0,ai),(1,b8)]) λcb=>
 ab (b7 Y) λb0=>
 ab (aF P 55 b0 3) λbT=>
 a1 aa (aQ P aa 29 bT cb) λae=>
 some (.tuple [],ae)) (some (.tuple [],U))
theorem ajS(G:av)(N:Nat)(Y:I)(ai:I)(H:J):bp Tryz.f23 G N (cF [Y,ai]) H=FI G Y ai H:=by
 refine cP (A:=bp Tryz.f23 G N) (aN _) ?_;delta FI;kernel_rfl
theorem alT(N:Nat){Y ai:I}{H:J}{r:I×J}(h:FI (au P ao) Y ai H=some r):au P ao 23 [Y,ai] H=some r:=
 cV ad Tryz.func23 ad ad ad ((ajS (au P ao) N Y ai H).trans h)
def De(G:av)(Y ai:I)(ap aC:I)(H:J):O:=
 aD ai true H (dw ap) λcr U=>
 aD ai true U (dw aC) λb8 aa=>
 aD ai true aa (bm (aZ P .geq 3 false cr b8)) λcb ae=>
 ab (cW ai (some cb) (some (.bool false))) λb0=>
 bQ (some b0) (aL ae (G 23 [Y,(.int .i64 4)] ae) λbX al=>
 some (.tuple [],al)) (some (.tuple [],ae))
theorem akb(G:av)(N:Nat)(Y:I)(ai:I)(ap:I)(aC:I)(H:J):bp Tryz.f48 G N (cF [Y,ai,ap,aC]) H=De G Y ai ap aC H:=by
 refine cP (A:=bp Tryz.f48 G N) (aN _) ?_;delta De;kernel_rfl
theorem amc(N:Nat){Y ai ap aC:I}{H:J}{r:I×J}(h:De (au P ao) Y ai ap aC H=some r):au P ao 48 [Y,ai,ap,aC] H=some r:=
 cV ad Tryz.func48 ad ad ad ((akb (au P ao) N Y ai ap aC H).trans h)
def IS(G:av)(Y:I)(H:J):O:=
 cv H [(.int .i64 0),(.str []),(.int .i64 0),(.int .i64 0)] λap U=>
 aL U (G 18 [Y] U) λbf aa=>
 cv aa [(.int .i64 0),(.str []),(.int .i64 0),(.int .i64 0)] λaC ae=>
 a1 ae (aQ P ae 57 aC bf) λal=>
 ab (aF P 57 aC 0) λbB=>
 ab (am P al 3 bB) λbu=>
 ab (aZ P .neq 3 true bu (.int .i64 1)) λbS=>
 bQ (some bS) (aL al (G 23 [Y,(.int .i64 2)] al) λcr aB=>
 a1 aB (aQ P aB 57 ap (.agg [(.int .i64 0),(.str []),(.int .i64 0),(.int .i64 0)])) λaG=>
 ab (am P aG 57 ap) λr=>
 some (r,aG)) (ab (b7 Y) λb0=>
 ab (aF P 55 b0 1) λbT=>
 ab (am P al 3 bT) λbX=>
 ab (aZ P .add 3 true bX (.int .i64 1)) λbI=>
 ab (b7 Y) λcc=>
 ab (aF P 55 cc 1) λcG=>
 a1 al (aQ P al 3 cG bI) λaB=>
 ab (am P aB 57 aC) λc6=>
 a1 aB (aQ P aB 57 ap c6) λaG=>
 ab (am P aG 57 ap) λr=>
 some (r,aG))
theorem akc(G:av)(N:Nat)(Y:I)(H:J):bp Tryz.f49 G N (cF [Y]) H=IS G Y H:=by
 refine cP (A:=bp Tryz.f49 G N) (aN _) ?_;delta IS;kernel_rfl
theorem amd(N:Nat){Y:I}{H:J}{r:I×J}(h:IS (au P ao) Y H=some r):au P ao 49 [Y] H=some r:=
 cV ad Tryz.func49 ad ad ad ((akc (au P ao) N Y H).trans h)
def IT(G:av)(Y ai:I)(H:J):O:=
 aL H (G 53 [Y,(.int .i64 4),ai] H) λbB U=>
 ab (fh .not bB) λbu=>
 bQ (some bu) (aL U (G 23 [Y,(.int .i64 2)] U) λbF aa=>
 some (.tuple [],aa)) (some (.tuple [],U))
theorem akd(G:av)(N:Nat)(Y:I)(ai:I)(H:J):bp Tryz.f50 G N (cF [Y,ai]) H=IT G Y ai H:=by
 refine cP (A:=bp Tryz.f50 G N) (aN _) ?_;delta IT;kernel_rfl
theorem ame(N:Nat){Y ai:I}{H:J}{r:I×J}(h:IT (au P ao) Y ai H=some r):au P ao 50 [Y,ai] H=some r:=
 cV ad Tryz.func50 ad ad ad ((akd (au P ao) N Y ai H).trans h)
def IU(G:av)(Y:I)(H:J):O:=
 cv H [(.str []),(.str []),(.int .i64 0),(.int .i64 0)] λap U=>
 aL U (G 49 [Y] U) λbf aa=>
 cv aa [(.int .i64 0),(.str []),(.int .i64 0),(.int .i64 0)] λaC ae=>
 a1 ae (aQ P ae 57 aC bf) λal=>
 aL al (G 50 [Y,(.str [58])] al) λbu aB=>
 aL aB (G 54 [Y] aB) λb8 aG=>
 ab (aF P 57 aC 1) λbS=>
 ab (am P aG 9 bS) λbF=>
 ab (aF P 57 aC 3) λcb=>
 ab (am P aG 3 cb) λb0=>
 ab (cM P 66 [(0,bF),(1,b8),(2,b0)]) λbT=>
 a1 aG (aQ P aG 66 ap bT) λaP=>
 bif ((cd (am P aB 9 bS) bF&&(cd (am P aG 9 bS) bF&&true))&&((cd (am P aB 3 cb) b0&&(cd (am P aG 3 cb) b0&&true))&&true)) then(ab (am P aP 66 ap) λr=>
 some (r,aP)) else none
theorem ake(G:av)(N:Nat)(Y:I)(H:J):bp Tryz.f51 G N (cF [Y]) H=IU G Y H:=by
 refine cP (A:=bp Tryz.f51 G N) (aN _) ?_;delta IU;kernel_rfl
theorem amf(N:Nat){Y:I}{H:J}{r:I×J}(h:IU (au P ao) Y H=some r):au P ao 51 [Y] H=some r:=
 cV ad Tryz.func51 ad ad ad ((ake (au P ao) N Y H).trans h)
def IV(G:av)(Y ai:I)(H:J):O:=
 aL H (G 18 [Y] H) λbB U=>
 ab (d8 P 57 bB 0) λbu=>
 ab (aZ P .eql 3 true bu (.int .i64 1)) λbS=>
 ab (b7 ai) λcr=>
 ab (aF P 46 cr 1) λb8=>
 ab (am P U 23 b8) λcb=>
 ia (dC P .empty .len [23] [cb]) (dC P U .len [23] [cb]) λgY=>
 aL (gY.heap U) (G 48 [Y,bS,gY.val,(.int .i64 6)] (gY.heap U)) λbT aa=>
 bif qY [0,0,2,6,14,0,32,96,224,480,1023] [1,2,3,4,10] [⟨1,(.pure Y),λH=>none⟩,⟨2,(.gX bB U),λH=>none⟩,⟨0,(.pure Y),λH=>none⟩,⟨3,(.pure bu),λH=>none⟩,⟨4,(.pure bS),λH=>none⟩,⟨5,(.pure ai),λH=>none⟩,⟨6,(.pure cr),λH=>none⟩,⟨7,(.pure b8),λH=>none⟩,⟨8,(.read cb),λH=>am P H 23 b8⟩,⟨9,gY,λH=>dC P H .len [23] [cb]⟩,⟨10,(.gX bT aa),λH=>none⟩] H then(aL aa (G 51 [Y] aa) λcz ae=>
 ab (b7 ai) λcc=>
 ab (aF P 46 cc 1) λcG=>
 ab (am P ae 23 cG) λc6=>
 dA ae (dH P (ae).next 23 1 [(0,cz)]) λc7 al=>
 aL al (fM P al [23,23] c6 c7) λcI aB=>
 ab (b7 ai) λdb=>
 ab (aF P 46 db 1) λdn=>
 a1 aB (aQ P aB 23 dn cI) λaG=>
 bif ((cd (am P aa 23 cG) c6&&(cd (am P ae 23 cG) c6&&(cd (am P al 23 cG) c6&&true)))&&true) then(some (.tuple [],aG)) else none) else none
theorem akf(G:av)(N:Nat)(Y:I)(ai:I)(H:J):bp Tryz.f52 G N (cF [Y,ai]) H=IV G Y ai H:=by
 refine cP (A:=bp Tryz.f52 G N) (aN _) ?_;delta IV;kernel_rfl
theorem amg(N:Nat){Y ai:I}{H:J}{r:I×J}(h:IV (au P ao) Y ai H=some r):au P ao 52 [Y,ai] H=some r:=
 cV ad Tryz.func52 ad ad ad ((akf (au P ao) N Y ai H).trans h)
def IW(G:av)(Y ai ap:I)(H:J):O:=
 aL H (G 19 [Y,ai,ap] H) λcr U=>
 ab (fh .not cr) λb8=>
 bQ (some b8) (some ((.bool false),U)) (ab (b7 Y) λb0=>
 ab (aF P 55 b0 1) λbT=>
 ab (am P U 3 bT) λbX=>
 ab (aZ P .add 3 true bX (.int .i64 1)) λbI=>
 ab (b7 Y) λcc=>
 ab (aF P 55 cc 1) λcG=>
 a1 U (aQ P U 3 cG bI) λaa=>
 some ((.bool true),aa))
theorem akg(G:av)(N:Nat)(Y:I)(ai:I)(ap:I)(H:J):bp Tryz.f53 G N (cF [Y,ai,ap]) H=IW G Y ai ap H:=by
 refine cP (A:=bp Tryz.f53 G N) (aN _) ?_;delta IW;kernel_rfl
theorem amh(N:Nat){Y ai ap:I}{H:J}{r:I×J}(h:IW (au P ao) Y ai ap H=some r):au P ao 53 [Y,ai,ap] H=some r:=
 cV ad Tryz.func53 ad ad ad ((akg (au P ao) N Y ai ap H).trans h)
def IX(G:av)(Y:I)(H:J):O:=
 cv H [(.str []),(.int .i64 0)] λap U=>
 aL U (G 17 [Y] U) λbu aa=>
 bQ (some bu) (a1 aa (aQ P aa 43 ap (.agg [(.str []),(.int .i64 0)])) λae=>
 ab (am P ae 43 ap) λr=>
 some (r,ae)) (ab (b7 Y) λb8=>
 ab (aF P 55 b8 0) λcb=>
 ab (am P aa 50 cb) λb0=>
 ab (b7 Y) λbX=>
 ab (aF P 55 bX 1) λbI=>
 ab (am P aa 3 bI) λcc=>
 aL aa (G 73 [b0,cc] aa) λcG ae=>
 ab (gf cG 0) λc6=>
 cv ae [(.str []),(.int .i64 0)] λaC al=>
 cv al [(.int .i64 0),(.int .i64 0)] λbf aB=>
 a1 aB (aQ P aB 43 aC c6) λaG=>
 ab (gf cG 1) λcN=>
 ab (gf cG 2) λcz=>
 a1 aG (aQ P aG 29 bf cz) λaP=>
 bif ((cd (am P aa 50 cb) b0&&true)&&((cd (am P aa 3 bI) cc&&true)&&true)) then(ab (am P aP 29 bf) λdb=>
 aL aP (G 56 [Y,cN,db] aP) λdn bn=>
 ab (am P bn 43 aC) λdu=>
 a1 bn (aQ P bn 43 ap du) λbH=>
 ab (am P bH 43 ap) λr=>
 some (r,bH)) else none)
theorem akh(G:av)(N:Nat)(Y:I)(H:J):bp Tryz.f54 G N (cF [Y]) H=IX G Y H:=by
 refine cP (A:=bp Tryz.f54 G N) (aN _) ?_;delta IX;kernel_rfl
theorem ami(N:Nat){Y:I}{H:J}{r:I×J}(h:IX (au P ao) Y H=some r):au P ao 54 [Y] H=some r:=
 cV ad Tryz.func54 ad ad ad ((akh (au P ao) N Y H).trans h)
def FM(G:av)(Y ai ap:I)(H:J):O:=
 dA H (eW (H).next ap) λbf U=>
 ab (aF P 29 bf 0) λbB=>
 ab (am P U 27 bB) λbu=>
 ab (aZ P .neq 27 true bu (.int .i64 0)) λbS=>
 bQ (some bS) (ab (am P U 29 bf) λcr=>
 ab (b7 Y) λb8=>
 ab (aF P 55 b8 3) λcb=>
 a1 U (aQ P U 29 cb cr) λaa=>
 some (.tuple [],aa)) (ab (b7 Y) λbX=>
 ab (aF P 55 bX 1) λbI=>
 a1 U (aQ P U 3 bI ai) λaa=>
 some (.tuple [],aa))
theorem akj(G:av)(N:Nat)(Y:I)(ai:I)(ap:I)(H:J):bp Tryz.f56 G N (cF [Y,ai,ap]) H=FM G Y ai ap H:=by
 refine cP (A:=bp Tryz.f56 G N) (aN _) ?_;delta FM;kernel_rfl
theorem amk(N:Nat){Y ai ap:I}{H:J}{r:I×J}(h:FM (au P ao) Y ai ap H=some r):au P ao 56 [Y,ai,ap] H=some r:=
 cV ad Tryz.func56 ad ad ad ((akj (au P ao) N Y ai ap H).trans h)
end
end
end Go.Proofs.YtghmbpmaafnodaaGreatDoor
namespace Go.f7
 @[congr] theorem aqv {H H':J} {cs uz:List I} {k:I->J->O} {z:Nat} (d:H=H') (e:cs=uz) (ZQ:mB=z):cv H cs k=cv H' uz k:=by rw[d,e]
 @[congr] theorem aqC {ms hE:List Nat} {T:List kp} {H:J} {z:Nat} (ZQ:mB=z):qY ms hE T H=qY ms hE T H:=rfl
theorem QE{ms hE:List Nat}{T:List kp}{H:J}: ∀S:List kp,S.all (λt=>hE.contains t.i)=true->xE ms hE T H S=true
 |[],_=>rfl
 |t::ts,h=>by
  simp only[List.all_cons,Bool.and_eq_true] at h;rw[xE,QE ts h.2,Bool.and_true];split
  ·rw[h.1,Bool.true_or]
  ·rfl
theorem adB{ms hE:List Nat}{T:List kp}{H:J}(U:xK ms T []=true)(aa:T.all (λt=>hE.contains t.i)=true):qY ms hE T H=true:=by
 rw[qY,U,QE T aa];rfl
end Go.f7
namespace Go.Proofs.YtghmbpmaafnodaaGreatDoor
open Go.f7
open Nat (reduceAdd reduceLeDiff)
section
structure hq(T:List Tok):Prop where
 n:T.length<=20000000
 g:Good T ((T.length:Int)-1)
def iw(aj ch cf ci:I)(s:aw):dZ:= .row false 7 [[aj,.int .i64 s.at_,ch,cf,ci,.int .i64 s.aA,.int .i64 s.cw]]
structure fJ(H:J)(r:Nat)(T:List Tok)(aj ch cf ci:I)(s:aw):Prop where
 rd:H.get r=some (iw aj ch cf ci s)
 b9:h9 H aj T
 a0:0<=s.at_
 bd:s.at_<T.length
 n:T.length<=20000000
 z:s.aA=0->s.cw=0
 o:s.bN=0
 one:ch.one=true/\cf.one=true/\ci.one=true
section
variable {H H':J}{r:Nat}{T:List Tok}{aj ch cf ci:I}{s s':aw}
theorem fJ.lt(h:fJ H r T aj ch cf ci s):r<H.next:=J.aW h.rd
theorem fJ.aK(h:fJ H r T aj ch cf ci s)(p:aR H H'):fJ H' r T aj ch cf ci s:=⟨p.get h.rd,h.b9.aK p,h.a0,h.bd,h.n,h.z,h.o,h.one⟩
theorem fJ.ZI(h:fJ H r T aj ch cf ci s)(m:cB r H H'):h9 H' aj T:=h.b9.bo λl ro els e=>m.get e (by
 rintro rfl;rw[h.rd] at e;simp only[iw,bD,dZ.row.injEq] at e;omega)
theorem fJ.set(h:fJ H r T aj ch cf ci s)(s':aw)(a0:0<=s'.at_)(bd:s'.at_<T.length)(z:s'.aA=0->s'.cw=0)(o:s'.bN=0):cB r H (H.set r (iw aj ch cf ci s'))/\fJ (H.set r (iw aj ch cf ci s')) r T aj ch cf ci s':=by
 have m:cB r H (H.set r (iw aj ch cf ci s')):=dE.de (S:=(· =r)) (dE.refl _ _) (.inl rfl) _;exact⟨m,J.get_set_same h.lt,h.ZI m,a0,bd,h.n,z,o,h.one⟩
theorem fJ.fin(h:fJ H r T aj ch cf ci s)(m:cB r H H')(aX:H'.get r=some (iw aj ch cf ci s'))(a0:0<=s'.at_)(bd:s'.at_<T.length)(z:s'.aA=0->s'.cw=0)(o:s'.bN=0):fJ H' r T aj ch cf ci s':=⟨aX,h.ZI m,a0,bd,h.n,z,o,h.one⟩
theorem hq.next(aH:hq T)(h:(aq T s.at_).kind≠0):s.at_+1<T.length:=by have:=aH.g.lt _ h;omega
theorem L9(aH:hq T)(h:fJ H r T aj ch cf ci s)(ah:(aq T s.at_).kind≠0):aE s={s with at_:=s.at_+1}/\0<=(aE s).at_/\(aE s).at_<T.length:=by
 have:=aH.next ah
 have a6:=h.a0;have aV:=aH.n;have e:aE s={s with at_:=s.at_+1}:=by
  unfold aE hD;rw[IntWalk.i64_in _ ⟨Z,Z⟩]
 rw[e];exact⟨rfl,by(try simp only);omega,by(try simp only);omega⟩
theorem ap6{H:J}(a b:Int):dC P H .min [3,3] [.int .i64 a,.int .i64 b]=some (.int .i64 (if b<a then b else a)):=by
 simp only[dC,Hk]
theorem h9.rd(h:h9 H aj T):cd (some aj) aj=true:=by
 rcases h with⟨rfl,_⟩|⟨l,i,cap,rfl,_⟩
 ·rfl
 ·exact u7 _ _ _ _ _
theorem yC(h:fJ H r T aj ch cf ci s):W (au P ao 17 [.ptr r 0 0] H) λv H'=>v= .bool (s.aA != 0)/\H'=H:=by
 refine cU (λ_=>alN 0) ?_;have a7:=h.rd;unfold iw at a7;simp-implicitDefEqProofs(disch:=try exact ag) only[IH,reduceAdd,reduceLeDiff,reduceIte,az,a7];exact a8.2 ⟨rfl,rfl⟩
theorem Bv(h:fJ H r T aj ch cf ci s):W (au P ao 18 [.ptr r 0 0] H) λv H'=>v=(aq T s.at_).v/\aR H H':=by
 have a7:=h.rd;unfold iw at a7;have ax:=h.lt;refine cU (λ_=>alO 0) ?_;have a0:=h.a0;have bd:=h.bd;rcases h.b9 with⟨rfl,e⟩|⟨l,i,cap,rfl,hB⟩
 ·rw[e] at bd;simp at bd;omega
 have eo:s.at_.toNat<T.length:=Z;obtain⟨ro,els,aa,ae⟩:=hB.resolve_left (by rintro rfl;simp at eo);have lV:=J.aW aa;have al:=ae s.at_.toNat T[s.at_.toNat] (by simp[eo]);simp only[Tok.cells] at al;have aV:=h.n;have e8:IntKind.i64.wrap ((T.length:Int)-1)=(T.length:Int)-1:=IntWalk.i64_in _ ⟨Z,Z⟩;have anS:(if(T.length:Int)-1<s.at_ then(T.length:Int)-1 else s.at_)=s.at_:=if_neg Z;simp-implicitDefEqProofs(disch:=try exact ag) only[II,reduceAdd,reduceLeDiff,reduceIte,az,a7,ap6,e8,anS,aa,al,ags];refine zz (adB ad ad) ?_;simp-implicitDefEqProofs(disch:=try exact ag) only[reduceAdd,reduceLeDiff,reduceIte,az]
 refine a8.2 ⟨?_,aR.push _ _⟩;have a6: ¬s.at_<0:=Z;have U: ¬(T.length:Int)<=s.at_:=Z;simp[aq,a6,U,Tok.v,eo]
theorem Gm(h:fJ H r T aj ch cf ci s){e:Int}(he:e≠0):W (au P ao 23 [.ptr r 0 0,.int .i64 e] H) λv H'=>v= .tuple []/\cB r H H'/\fJ H' r T aj ch cf ci (cL T e s):=by
 refine cU (λ_=>alT 0) ?_;have df:=h.b9.one;obtain⟨dk,dJ,eL⟩:=h.one;rw[FI];refine aY (yC h) ?_;rintro _ H1 ⟨rfl,rfl⟩;refine⟨bL _,?_⟩;by_cases U:s.aA=0
 ·rw[show cL T e s={s with aA:=e,cw:=(aq T s.at_).pos} by simp[cL,U]];simp-implicitDefEqProofs(disch:=try exact ag) only[bj,bO,U,bne_self_eq_false,Bool.not_false];refine aY (Bv h) ?_;rintro _ bl ⟨rfl,aJ⟩;refine⟨aJ.1,?_⟩;have aa:=h.aK aJ;have cJ:=aa.rd;unfold iw at cJ;have lV:=aa.lt;simp-implicitDefEqProofs(disch:=try exact ag) only[FI,reduceAdd,reduceLeDiff,reduceIte,az,Tok.v,cJ,df,dk,dJ,eL];obtain⟨m,bb⟩:=aa.set {s with aA:=e,cw:=(aq T s.at_).pos} h.a0 h.bd (λbW=>absurd bW he) h.o;exact a8.2 ⟨rfl,(aJ.mut _).trans m,bb⟩
 ·have fr:(s.aA != 0)=true:=by simpa using U
  rw[show cL T e s=s by simp[cL,U]];simp-implicitDefEqProofs(disch:=try exact ag) only[bj,bO,fr,Bool.not_true];exact a8.2 ⟨rfl,dE.refl _ _,h⟩
theorem BI(h:fJ H r T aj ch cf ci s)(k:Int)(x:bk):W (au P ao 19 [.ptr r 0 0,.int .i64 k,.str x] H) λv H'=>v= .bool (b4 T s k x)/\aR H H':=by
 refine cU (λ_=>alP 0) ?_;rw[IJ];refine aY (Bv h) ?_;rintro _ H1 ⟨rfl,aU⟩;refine⟨aU.1,?_⟩;simp-implicitDefEqProofs(disch:=try exact ag) only[reduceAdd,reduceLeDiff,reduceIte,az,Tok.v];refine aY (yC (h.aK (aU.bV _))) ?_;rintro _ bl ⟨rfl,rfl⟩;refine⟨bL _,?_⟩;by_cases U:s.aA=0
 ·by_cases aa:(aq T s.at_).kind=k
  ·simp-implicitDefEqProofs(disch:=try exact ag) only[reduceAdd,reduceLeDiff,reduceIte,az,a8,U,aa,bne_self_eq_false,Bool.not_false,beq_self_eq_true];exact⟨by simp[b4,U,aa],aU.bV _⟩
  ·have hb:((aq T s.at_).kind==k)=false:=by simpa using aa
   simp-implicitDefEqProofs(disch:=try exact ag) only[reduceAdd,reduceLeDiff,reduceIte,az,a8,U,hb,bne_self_eq_false,Bool.not_false];exact⟨by simp[b4,aa],aU.bV _⟩
 ·have fr:(s.aA != 0)=true:=by simpa using U
  simp-implicitDefEqProofs(disch:=try exact ag) only[reduceAdd,reduceLeDiff,reduceIte,az,a8,fr,Bool.not_true];exact⟨by simp[b4,U],aU.bV _⟩
theorem JW(aH:hq T)(h:fJ H r T aj ch cf ci s){k:Int}(ah:k≠0)(x:bk):W (au P ao 53 [.ptr r 0 0,.int .i64 k,.str x] H) λv H'=>v= .bool (fg T k x s).1/\cB r H H'/\fJ H' r T aj ch cf ci (fg T k x s).2:=by
 refine cU (λ_=>amh 0) ?_;have df:=h.b9.one;obtain⟨dk,dJ,eL⟩:=h.one;rw[IW];refine aY (BI h k x) ?_;rintro _ H1 ⟨rfl,aU⟩;refine⟨aU.1,?_⟩;have aa:=h.aK aU;have cJ:=aa.rd;unfold iw at cJ;have lV:=aa.lt;cases ay:b4 T s k x with
 |false=>
  rw[show fg T k x s=(false,s) by simp[fg,ay]];simp-implicitDefEqProofs(disch:=try exact ag) only[reduceAdd,reduceLeDiff,reduceIte,az,Bool.not_false];exact a8.2 ⟨rfl,aU.mut _,aa⟩
 |true=>
  rw[show fg T k x s=(true,aE s) by simp[fg,ay]];have ie:=(sz ay).2.1;obtain⟨-,g0,g1⟩:=L9 aH h (by rw[ie];exact ah);simp-implicitDefEqProofs(disch:=try exact ag) only[reduceAdd,reduceLeDiff,reduceIte,az,cJ,df,dk,dJ,eL,Bool.not_true];obtain⟨m,bb⟩:=aa.set (aE s) g0 g1 h.z h.o;exact a8.2 ⟨rfl,(aU.mut _).trans m,bb⟩
theorem yD(aH:hq T)(h:fJ H r T aj ch cf ci s)(x:bk):W (au P ao 50 [.ptr r 0 0,.str x] H) λv H'=>v= .tuple []/\cB r H H'/\fJ H' r T aj ch cf ci (cY T x s).2:=by
 refine cU (λ_=>ame 0) ?_;rw[IT];refine aY (JW aH h (k:=4) cl x) ?_;rintro _ H1 ⟨rfl,m1,dt⟩;refine⟨m1.1,?_⟩;cases ay:b4 T s 4 x with
 |false=>
  rw[show fg T 4 x s=(false,s) by simp[fg,ay]] at dt ⊢;rw[show cY T x s=(false,cL T 2 s) by simp[cY,ay]];simp-implicitDefEqProofs(disch:=try exact ag) only[reduceAdd,reduceLeDiff,reduceIte,az,Bool.not_false];refine aY (Gm dt (e:=2) cl) ?_;rintro _ bl ⟨rfl,m2,cK⟩;refine⟨m2.1,?_⟩;exact a8.2 ⟨rfl,m1.trans m2,cK⟩
 |true=>
  rw[show fg T 4 x s=(true,aE s) by simp[fg,ay]] at dt ⊢;rw[show cY T x s=(true,aE s) by simp[cY,ay]];simp-implicitDefEqProofs(disch:=try exact ag) only[reduceAdd,reduceLeDiff,reduceIte,az,Bool.not_true];exact a8.2 ⟨rfl,m1,dt⟩
def gP(T:List Tok)(b:Bool)(ak8 an9:Int)(s:aw):aw:=bif b&&decide (an9<=ak8) then cL T 4 s else s
theorem DH(h:fJ H r T aj ch cf ci s)(b:Bool)(x y:Int):W (au P ao 48 [.ptr r 0 0,.bool b,.int .i64 x,.int .i64 y] H) λv H'=>v= .tuple []/\cB r H H'/\fJ H' r T aj ch cf ci (gP T b x y s):=by
 refine cU (λ_=>amc 0) ?_;unfold gP;cases b with
 |false=>
  simp-implicitDefEqProofs(disch:=try exact ag) only[De,reduceAdd,reduceLeDiff,reduceIte,az];exact a8.2 ⟨rfl,dE.refl _ _,h⟩
 |true=>
  by_cases aS:y<=x
  ·simp-implicitDefEqProofs(disch:=try exact ag) only[De,reduceAdd,reduceLeDiff,reduceIte,az,aS,decide_true];refine aY (Gm h (e:=4) cl) ?_;rintro _ bl ⟨rfl,m2,cK⟩;refine⟨m2.1,a8.2 ⟨rfl,m2,?_⟩⟩;exact cK
  ·simp-implicitDefEqProofs(disch:=try exact ag) only[De,reduceAdd,reduceLeDiff,reduceIte,az,aS,decide_false];exact a8.2 ⟨rfl,dE.refl _ _,h⟩
def hQ(T:List Tok)(s:aw):Tok×aw:=bif (aq T s.at_).kind != 1 then(.none,cL T 2 s) else(aq T s.at_,aE s)
theorem Ke(aH:hq T)(h:fJ H r T aj ch cf ci s):W (au P ao 49 [.ptr r 0 0] H) λv H'=>v=(hQ T s).1.v/\cB r H H'/\fJ H' r T aj ch cf ci (hQ T s).2:=by
 refine cU (λ_=>amd 0) ?_;have df:=h.b9.one;obtain⟨dk,dJ,eL⟩:=h.one;have eh:=aR.push H (.row false 4 [[.int .i64 0,.str [],.int .i64 0,.int .i64 0]]);simp-implicitDefEqProofs(disch:=try exact ag) only[IS,bj,bO,List.length_cons,List.length_nil,Nat.zero_add,Nat.reduceAdd];refine aY (Bv (h.aK eh)) ?_;rintro _ H1 ⟨rfl,aU⟩;refine⟨aU.1,?_⟩;have ay:=aU.get (J.ca H (.row false 4 [[.int .i64 0,.str [],.int .i64 0,.int .i64 0]]));have fw:=aU.1;simp only[J.b6] at fw;have bg:=J.ca H1 (.row false 4 [[.int .i64 (aq T s.at_).kind,.str (aq T s.at_).text,.int .i64 (aq T s.at_).n,.int .i64 (aq T s.at_).pos]]);have aJ:=(eh.trans aU).bV (.row false 4 [[.int .i64 (aq T s.at_).kind,.str (aq T s.at_).text,.int .i64 (aq T s.at_).n,.int .i64 (aq T s.at_).pos]])
 have cn:=(aR.push H1 (.row false 4 [[.int .i64 (aq T s.at_).kind,.str (aq T s.at_).text,.int .i64 (aq T s.at_).n,.int .i64 (aq T s.at_).pos]])).get ay;have aa:=h.aK aJ;have ax:=h.lt;unfold hQ;cases ah:((aq T s.at_).kind != 1) with
 |true=>
  simp-implicitDefEqProofs(disch:=try exact ag) only[bj,bO,am,dy,aQ,dy,Nat.reduceAdd,Nat.reduceLeDiff,reduceIte,I.cells,eu,fl,dD,ei,fE,Tok.v,ah];refine aY (Gm aa (e:=2) cl) ?_;rintro _ cQ ⟨rfl,m3,ae⟩;refine⟨m3.1,?_⟩;have eK:=m3.get cn Z;have gL:=J.aW eK;simp-implicitDefEqProofs(disch:=try exact ag) only[reduceAdd,reduceLeDiff,reduceIte,az,eK];have fG:cB r H (cQ.set H.next (.row false 4 [[.int .i64 0,.str [],.int .i64 0,.int .i64 0]])):=((aJ.mut _).trans m3).de (.inr (bL _)) _;exact a8.2 ⟨rfl,fG,h.fin fG (by rw[J.get_set_other Z];exact ae.rd) ae.a0 ae.bd ae.z ae.o⟩
 |false=>
  have jq:(aq T s.at_).kind=1:=by simpa using ah
  obtain⟨-,g0,g1⟩:=L9 aH h Z;have cJ:=aa.rd;unfold iw at cJ;have lV:=aa.lt;obtain⟨m,bb⟩:=aa.set (aE s) g0 g1 h.z h.o;simp-implicitDefEqProofs(disch:=try exact ag) only[bj,bO,am,dy,aQ,dy,Nat.reduceAdd,Nat.reduceLeDiff,reduceIte,I.cells,eu,fl,dD,ei,fE,Tok.v,ah,cJ,cn,bg,df,dk,dJ,eL];have fG:=((aJ.mut (· =r)).trans m).de (.inr (bL _)) (.row false 4 [[.int .i64 (aq T s.at_).kind,.str (aq T s.at_).text,.int .i64 (aq T s.at_).n,.int .i64 (aq T s.at_).pos]]);exact a8.2 ⟨rfl,fG,h.fin fG (by rw[J.get_set_other Z];exact bb.rd) g0 g1 h.z h.o⟩
def oz(at_ e a:Int)(s:aw):aw:=if e≠0 then {s with aA:=e,cw:=a} else {s with at_:=at_}
theorem Qr(h:fJ H r T aj ch cf ci s)(at_ e a:Int)(a7:e=0->0<=at_/\at_<T.length):W (au P ao 56 [.ptr r 0 0,.int .i64 at_,.agg [.int .i64 e,.int .i64 a]] H) λv H'=>v= .tuple []/\cB r H H'/\fJ H' r T aj ch cf ci (oz at_ e a s):=by
 refine cU (λ_=>amk 0) ?_;have df:=h.b9.one;obtain⟨dk,dJ,eL⟩:=h.one;have ic: ∀l,eW l (.agg [.int .i64 e,.int .i64 a])=some (.ptr l 0 0,.row false 2 [[.int .i64 e,.int .i64 a]]):=λl=>ij l _ rfl
 have aU:=aR.push H (.row false 2 [[.int .i64 e,.int .i64 a]]);have aa:=h.aK aU;have cJ:=aa.rd;unfold iw at cJ;have ax:=h.lt;by_cases he:e=0
 ·have ay:(e != 0)=false:=by simp[he]
  obtain⟨A5,cE⟩:=a7 he;rw[show oz at_ e a s={s with at_:=at_} by simp[oz,he]];obtain⟨m,bb⟩:=aa.set {s with at_:=at_} A5 cE h.z h.o;simp-implicitDefEqProofs(disch:=try exact ag) only[FM,reduceAdd,reduceLeDiff,reduceIte,az,ic,ay,cJ,df,dk,dJ,eL];exact a8.2 ⟨rfl,(aU.mut _).trans m,bb⟩
 ·have ay:(e != 0)=true:=by simpa using he
  rw[show oz at_ e a s={s with aA:=e,cw:=a} by simp[oz,he]];obtain⟨m,bb⟩:=aa.set {s with aA:=e,cw:=a} h.a0 h.bd (λbW=>absurd bW he) h.o;simp-implicitDefEqProofs(disch:=try exact ag) only[FM,reduceAdd,reduceLeDiff,reduceIte,az,ic,ay,cJ,df,dk,dJ,eL];exact a8.2 ⟨rfl,(aU.mut _).trans m,bb⟩
theorem alw(h:fJ H r T aj ch cf ci s):In ((T.length:Int)-1) s:=⟨h.a0,by have:=h.bd;omega,by rw[h.o];omega,by rw[h.o];omega⟩
theorem alF(aH:hq T)(h:fJ H r T aj ch cf ci s)(ak:s.aA=0)(bg:(eJ T ⟨s.at_,0,0,0⟩).2.aA=0):0<=(eJ T ⟨s.at_,0,0,0⟩).2.at_/\(eJ T ⟨s.at_,0,0,0⟩).2.at_<T.length:=by
 have na:=Hi aH.n (s:=s) (x:=s) ak ⟨rfl,rfl,bL _⟩ (h.z ak);have e:(mo T s).2.at_=(eJ T ⟨s.at_,0,0,0⟩).2.at_/\(mo T s).2.aA=0:=by
  unfold mo;rw[if_pos bg];exact⟨rfl,ak⟩
 have eq:=na.1.eq e.2;have f_:=(Ep aH.g (λ_=>alw h) (by rw[eq];exact e.2)).2;rw[eq] at f_;have a:=f_.a;have b:=f_.b;have:=h.a0;rw[e.1] at a b;exact⟨Z,Z⟩
def nB(T:List Tok)(s:aw):(bk×Int)×aw:=if s.aA≠0 then(([],0),s) else mo T s
theorem Sl(aH:hq T)(h:fJ H r T aj ch cf ci s):W (au P ao 54 [.ptr r 0 0] H) λv H'=>v= .agg [.str (nB T s).1.1,.int .i64 (nB T s).1.2]/\cB r H H'/\fJ H' r T aj ch cf ci (nB T s).2:=by
 refine cU (λ_=>ami 0) ?_;have df:=h.b9.one;obtain⟨dk,dJ,eL⟩:=h.one;have yc:=h.b9.rd;have ax:=h.lt;have eh:=aR.push H (.row false 2 [[.str [],.int .i64 0]]);have ay:=J.ca H (.row false 2 [[.str [],.int .i64 0]]);have U:=h.aK eh;simp-implicitDefEqProofs(disch:=try exact ag) only[IX,bj,bO,List.length_cons,List.length_nil,Nat.zero_add,Nat.reduceAdd];refine aY (yC U) ?_;rintro _ H1 ⟨rfl,rfl⟩;refine⟨bL _,?_⟩;by_cases ak:s.aA=0
 ·have eX:(s.aA != 0)=false:=by simpa using ak
  have mU:=U.rd;unfold iw at mU;rw[show nB T s=mo T s by simp[nB,ak]];simp-implicitDefEqProofs(disch:=try exact ag) only[bj,bO,am,dy,Nat.reduceAdd,Nat.reduceLeDiff,reduceIte,I.cells,eu,fl,dD,fE,eX,mU];refine aY (SH U.b9 s.at_) ?_;rintro _ bl ⟨rfl,aJ⟩;refine⟨aJ.1,?_⟩;have rg:=alF aH h ak;unfold mo;unfold nJ;generalize eJ T ⟨s.at_,0,0,0⟩=q at rg;obtain⟨⟨x,d⟩,uZ⟩:=q;have cn:=aJ.get ay;have n2:=aJ.1;simp only[J.b6] at n2;have io:=J.aW cn;have key: ∀(x:bk) (d at_ e a:Int) (a7:e=0->0<=at_/\at_<T.length),W (ab (some (.agg [.str x,.int .i64 d])) λc6=>
 cv bl [(.str []),(.int .i64 0)] λaC al=>
 cv al [(.int .i64 0),(.int .i64 0)] λbf aB=>
 a1 aB (aQ P aB 43 aC c6) λaG=>
 ab (some (.int .i64 at_)) λcN=>
 ab (some (.agg [.int .i64 e,.int .i64 a])) λcz=>
 a1 aG (aQ P aG 29 bf cz) λaP=>
 bif ((cd (some aj) aj&&true)&&((cd (some (.int .i64 s.at_)) (.int .i64 s.at_)&&true)&&true)) then(ab (am P aP 29 bf) λdb=>
 aL aP (au P ao 56 [.ptr r 0 0,cN,db] aP) λdn bn=>
 ab (am P bn 43 aC) λdu=>
 a1 bn (aQ P bn 43 (.ptr H.next 0 0) du) λbH=>
 ab (am P bH 43 (.ptr H.next 0 0)) λr=>
 some (r,bH)) else none) λv H'=>v= .agg [.str x,.int .i64 d]/\cB r H H'/\fJ H' r T aj ch cf ci (oz at_ e a s):=by
   intro x d at_ e a a7;have bz:=(eh.trans aJ).bV (.row false 2 [[.str x,.int .i64 d]])|>.bV (.row false 2 [[.int .i64 e,.int .i64 a]]);have eK:=((aR.push bl (.row false 2 [[.str x,.int .i64 d]])).bV (.row false 2 [[.int .i64 e,.int .i64 a]])).get cn;have mj:=(aR.push (bl.push (.row false 2 [[.str x,.int .i64 d]])) (.row false 2 [[.int .i64 e,.int .i64 a]])).get (J.ca bl (.row false 2 [[.str x,.int .i64 d]]));simp-implicitDefEqProofs(disch:=try exact ag) only[reduceAdd,reduceLeDiff,reduceIte,az,J.h8,yc,Bool.and_true];refine aY (Qr (h.aK bz) at_ e a a7) ?_;rintro _ cu ⟨rfl,m4,al⟩;refine⟨m4.1,?_⟩
   have fV:=m4.get eK Z;have iD:=m4.get mj Z;have hO:=J.aW fV;simp-implicitDefEqProofs(disch:=try exact ag) only[reduceAdd,reduceLeDiff,reduceIte,az,fV,iD];have fG:=((bz.mut (· =r)).trans m4).de (.inr (bL _)) (.row false 2 [[.str x,.int .i64 d]]);exact a8.2 ⟨rfl,fG,h.fin fG (by rw[J.get_set_other Z];exact al.rd) al.a0 al.bd al.z al.o⟩
  have lW:=h.rd;unfold iw at lW;by_cases bg:uZ.aA=0
  ·have k:=key x d uZ.at_ 0 0 (λ_=>rg bg);have aI:oz uZ.at_ 0 0 s={s with at_:=uZ.at_}:=by simp[oz]
   simp only[bg,if_true];rw[aI] at k;simp-implicitDefEqProofs(disch:=try exact ag) only[bj,bO,am,dy,aQ,dy,Nat.reduceAdd,Nat.reduceLeDiff,reduceIte,I.cells,eu,fl,dD,fE,J.h8,lW,yc] at k ⊢;exact k
  ·have k:=key [] 0 0 uZ.aA uZ.cw (λbW=>absurd bW bg);have aI:oz 0 uZ.aA uZ.cw s={s with aA:=uZ.aA,cw:=uZ.cw}:=by simp[oz,bg]
   simp only[bg,if_false];rw[aI] at k;simp-implicitDefEqProofs(disch:=try exact ag) only[bj,bO,am,dy,aQ,dy,Nat.reduceAdd,Nat.reduceLeDiff,reduceIte,I.cells,eu,fl,dD,fE,J.h8,lW,yc] at k ⊢;exact k
 ·have eX:(s.aA != 0)=true:=by simpa using ak
  rw[show nB T s=(([],0),s) by simp[nB,ak]];simp-implicitDefEqProofs(disch:=try exact ag) only[reduceAdd,reduceLeDiff,reduceIte,az,eX,J.h8];have fG:=(eh.mut (· =r));exact a8.2 ⟨rfl,fG,U⟩
end
end
section
def dW.cells(p:dW):List I:=[.str p.name,.str p.eQ,.int .i64 p.fS,.int .i64 p.pos]
def ga:pt dW:=⟨4,λ_ _ p cs=>cs=p.cells,λh=>by rw[h];exact⟨rfl,rfl⟩,λ_ h=>h⟩
theorem vG:v6 23 66 4:=⟨ad,MK,⟨_,(by kernel_rfl:rA P 66=some 48),cl⟩,⟨_,(by kernel_rfl:jZ P 66=some (.agg [.str [],.str [],.int .i64 0,.int .i64 0])),rfl,rfl⟩,cl⟩
def iW(T:List Tok)(s:aw):dW×aw:=(⟨(hQ T s).1.text,(nB T (cY T [58] (hQ T s).2).2).1.1,(nB T (cY T [58] (hQ T s).2).2).1.2,(hQ T s).1.pos⟩,(nB T (cY T [58] (hQ T s).2).2).2)
section
variable {H H':J}{r:Nat}{T:List Tok}{aj ch cf ci:I}{s s':aw}
theorem JX(aH:hq T)(h:fJ H r T aj ch cf ci s):W (au P ao 51 [.ptr r 0 0] H) λv H'=>v= .agg (iW T s).1.cells/\cB r H H'/\fJ H' r T aj ch cf ci (iW T s).2:=by
 refine cU (λ_=>amf 0) ?_;have ax:=h.lt;have eh:=aR.push H (.row false 4 [[.str [],.str [],.int .i64 0,.int .i64 0]]);have ay:=J.ca H (.row false 4 [[.str [],.str [],.int .i64 0,.int .i64 0]]);simp-implicitDefEqProofs(disch:=try exact ag) only[IU,bj,bO,List.length_cons,List.length_nil,Nat.zero_add,Nat.reduceAdd];refine aY (Ke aH (h.aK eh)) ?_;rintro _ H1 ⟨rfl,m1,U⟩;refine⟨m1.1,?_⟩;have fw:=m1.1;simp only[J.b6] at fw;have dS:=m1.get ay Z;unfold iW;generalize hQ T s=q at U ⊢;obtain⟨⟨k,x,z,p⟩,s1⟩:=q;simp only at U ⊢;have aJ:=aR.push H1 (.row false 4 [[.int .i64 k,.str x,.int .i64 z,.int .i64 p]])
 have lT:=J.ca H1 (.row false 4 [[.int .i64 k,.str x,.int .i64 z,.int .i64 p]]);simp-implicitDefEqProofs(disch:=try exact ag) only[bj,bO,am,dy,aQ,dy,Nat.reduceAdd,Nat.reduceLeDiff,reduceIte,I.cells,eu,fl,dD,fE,J.h8,Tok.v];refine aY (yD aH (U.aK aJ) [58]) ?_;rintro _ cQ ⟨rfl,m3,ae⟩;refine⟨m3.1,?_⟩;have jy:=m3.1;simp only[J.b6] at jy;generalize (cY T [58] s1).2=s2 at ae ⊢;simp-implicitDefEqProofs(disch:=try exact ag) only[bj,bO];refine aY (Sl aH ae) ?_;rintro _ cu ⟨rfl,m4,al⟩;refine⟨m4.1,?_⟩;have mz:=m4.1;generalize nB T s2=o at al ⊢;obtain⟨⟨y,d⟩,qA⟩:=o;simp only at al ⊢;have cn:=aJ.get dS;have eK:=m3.get cn Z
 have mj:=m3.get lT Z;have fV:=m4.get eK Z;have iD:=m4.get mj Z;have hO:=J.aW fV;simp-implicitDefEqProofs(disch:=try exact ag) only[reduceAdd,reduceLeDiff,reduceIte,az,fV,mj,iD];have fG:=((((eh.mut (· =r)).trans m1).trans (aJ.mut _)).trans m3).trans m4;have Da:=fG.de (.inr (bL _)) (.row false 4 [[.str x,.str y,.int .i64 d,.int .i64 p]]);exact a8.2 ⟨rfl,Da,h.fin Da (by rw[J.get_set_other Z];exact al.rd) al.a0 al.bd al.z al.o⟩
theorem fF.pm{ok:Nat->Prop}{l:List dW}{v:I}(h:fF ga ok H l v)(p:dW)(aV:ok (H.next+1))(ax:l.length<=1000000000):
  ∃dr H',fM P (H.push (.row false 4 [p.cells])) [23,23] v (.aM H.next 0 1 4 (some 1))=some (dr,H')/\fF ga ok H' (l++[p]) dr/\H.next+1<=H'.next/\(∀k,k<H.next-> ¬ok k->H'.get k=H.get k):=by
 obtain⟨dr,H',a,b,c,d⟩:=fF.app (K:=ga) (ok':=ok) vG h (okE:=λ_=>False) (a:=p) (cs:=p.cells) rfl (λ_ _ bW=>bW.elim) (λ_ _ bW _=>bW) aV ax;refine⟨dr,H',a,b,c,λk ah ja=>d k ah ?_⟩;rintro L bw rfl;rcases h with⟨rfl,_⟩|⟨L',els,rfl,bc,_⟩
 ·cases bw
 ·cases bw;exact ja bc
theorem fF.rQ{ok:Nat->Prop}{l:List dW}{v:I}(h:fF ga ok H l v)(H':J):dC P H' .len [23] [v]=some (.int .i64 l.length):=by
 rcases h with⟨rfl,rfl⟩|⟨L,els,rfl,_⟩
 ·exact Ht
 ·exact EH
theorem fF.rd{α:Type}{K:pt α}{ok:Nat->Prop}{l:List α}{v:I}(h:fF K ok H l v):cd (some v) v=true:=by
 rcases h with⟨rfl,_⟩|⟨L,els,rfl,_⟩
 ·rfl
 ·exact u7 _ _ _ _ _
end
end
section
def tE(T:List Tok):Nat->List dW->aw->R (List dW)
 |0,_,_=>none
 |n+1,l,s=>bif s.aA==0&& !b4 T s 4 [125] then
  tE T n (l++[(iW T (gP T ((aq T s.at_).kind==1) l.length 8 s)).1]) (cY T [59] (iW T (gP T ((aq T s.at_).kind==1) l.length 8 s)).2).2
  else some (l,s)
abbrev nR(r n:Nat):J->J->Prop:=dE λk=>k=r\/n<=k
section
variable {H H':J}{r:Nat}{T:List Tok}{aj ch cf ci:I}{s s':aw}
theorem fJ.zO{H1:J}{s0:aw}(h:fJ H1 r T aj ch cf ci s0)(m:nR r H1.next H1 H')(aX:H'.get r=some (iw aj ch cf ci s'))(a0:0<=s'.at_)(bd:s'.at_<T.length)(z:s'.aA=0->s'.cw=0)(o:s'.bN=0):fJ H' r T aj ch cf ci s':=
 ⟨aX,h.b9.bo λl ro els e=>m.get e (by
  have:=J.aW e;rintro(rfl|bW)
  ·rw[h.rd] at e;simp only[iw,bD,dZ.row.injEq] at e;omega
  ·omega),a0,bd,h.n,z,o,h.one⟩
theorem cB.A2{n:Nat}(m:cB r H H'):nR r n H H':=⟨m.1,λl ax aO=>m.2 l ax λe=>aO (.inl e)⟩
structure jv(H1 H:J)(r c n2 esz:Nat)(T:List Tok)(aj ch cf ci:I)(x:I)(rest:List I)(l:List dW)(v:I)(s:aw):Prop where
 dj:fJ H r T aj ch cf ci s
 cell:H.get c=some (.row false esz [x::v::rest])
 ho:fF ga (bG n2) H l v
 m:nR r H1.next H1 H
 cZ:r<H1.next
 dk:H1.next<=c
 dJ:c<n2
 eL:n2<=H.next
theorem jv.mut{H1:J}{c n2 esz:Nat}{x:I}{rest:List I}{l:List dW}{v:I}(h:jv H1 H r c n2 esz T aj ch cf ci x rest l v s)(m:cB r H H')(dj:fJ H' r T aj ch cf ci s'):jv H1 H' r c n2 esz T aj ch cf ci x rest l v s':=by
 have cZ:=h.cZ;have dk:=h.dk;have dJ:=h.dJ;have eL:=h.eL;exact⟨dj,m.get h.cell Z,h.ho.bo (d_.mut m λk ah=>by unfold bG at ah;omega),h.m.trans m.A2,cZ,dk,dJ,by have:=m.1;omega⟩
theorem jv.add{H1:J}{c n2 esz:Nat}{x:I}{rest:List I}{l:List dW}{v:I}(U:fJ H1 r T aj ch cf ci s')(h:jv H1 H r c n2 esz T aj ch cf ci x rest l v s)(ax:l.length<=1000000000)(p:dW):
  ∃dr H',fM P (H.push (.row false 4 [p.cells])) [23,23] v (.aM H.next 0 1 4 (some 1))=some (dr,H')/\H.next+1<=H'.next/\dr.one=true/\H'.get c=some (.row false esz [x::v::rest])/\(H.push (.row false 4 [p.cells])).get c=some (.row false esz [x::v::rest])/\jv H1 (H'.set c (.row false esz [x::dr::rest])) r c n2 esz T aj ch cf ci x rest (l++[p]) dr s:=by
 have cZ:=h.cZ;have dk:=h.dk;have dJ:=h.dJ;have eL:=h.eL;obtain⟨dr,H',a,b,q,d⟩:=h.ho.pm p (by unfold bG;omega) ax;have gc:H'.get c=some (.row false esz [x::v::rest]):=by rw[d c Z (by unfold bG;omega)];exact h.cell
 have lc:=J.aW gc;have fG:nR r H1.next H1 (H'.set c (.row false esz [x::dr::rest])):=h.m.trans ⟨by simp;omega,λk ah aO=>by
  have Av:k≠r:=λe=>aO (.inl e)
  have Fq: ¬H1.next<=k:=λe=>aO (.inr e)
  rw[J.get_set_other Z,d k ah (by unfold bG;omega)]⟩
 refine⟨dr,H',a,q,b.one,gc,(aR.push _ _).get h.cell,?_,J.get_set_same lc,b.bo λk x ah g=>⟨ah,by unfold bG at ah;rw[J.get_set_other Z];exact g⟩,fG,cZ,dk,dJ,by simp;omega⟩;exact U.zO fG (by rw[J.get_set_other Z,d r Z (by unfold bG;omega)];exact h.dj.rd) h.dj.a0 h.dj.bd h.dj.z h.dj.o
theorem Pw{N:Nat}(aH:hq T){Q:I->J->Prop}{H1:J}{c n2:Nat}{nm:bk}{et:Int}{s0:aw}(U:fJ H1 r T aj ch cf ci s0){l':List dW}
  (eH: ∀H v,jv H1 H r c n2 3 T aj ch cf ci (.str nm) [.int .i64 et] l' v s'->W (zg (au P ao) N (.ptr r 0 0) (.ptr c 0 0) H) Q):
  ∀(n m:Nat) (H:J) (s:aw) (l:List dW) (v:I),n<m->l.length+n<=1000000000->jv H1 H r c n2 3 T aj ch cf ci (.str nm) [.int .i64 et] l v s->tE T n l s=some (l',s')->W (zh (au P ao) N m (.ptr r 0 0) (.ptr c 0 0) H) Q
 |_,0,_,_,_,_,aV,_,_,_=>Z
 |0,m+1,_,_,_,_,_,_,_,ak=>by cases ak
 |n+1,m+1,H,s,l,v,aV,ay,h,ak=>by
  rw[tE] at ak;rw[zh];unfold G_;refine aY (yC h.dj) ?_;rintro _ bl ⟨rfl,rfl⟩;refine⟨bL _,?_⟩;by_cases a6:s.aA=0
  ·have mi:(s.aA != 0)=false:=by simpa using a6
   have ib:(s.aA==0)=true:=by simpa using a6
   simp-implicitDefEqProofs(disch:=try exact ag) only[bj,bO,mi,Bool.not_false];refine hh (BI h.dj 4 [125]) ?_;rintro _ cQ ⟨rfl,bz⟩;refine⟨bz.1,?_⟩;have ae:=h.mut (bz.mut _) (h.dj.aK bz);cases af:b4 T s 4 [125] with
   |true=>
    rw[ib,af] at ak;cases ak;simp-implicitDefEqProofs(disch:=try exact ag) only[bj,bO,Bool.not_true];exact eH _ _ ae
   |false=>
    rw[ib,af] at ak;simp only[Bool.not_false,Bool.and_true,bx] at ak;simp-implicitDefEqProofs(disch:=try exact ag) only[bj,bO,Bool.not_false];refine aY (Bv ae.dj) ?_;rintro _ cu ⟨rfl,bK⟩;refine⟨bK.1,?_⟩;have al:=ae.mut (bK.mut _) (ae.dj.aK bK);have i_:=λH'=>al.ho.rQ H'
    have cp:=al.ho.rd;have iD:=al.cell;have mj:=ae.cell;simp-implicitDefEqProofs(disch:=try exact ag) only[reduceAdd,reduceLeDiff,reduceIte,az,Tok.v,iD,i_];refine aY (DH al.dj _ _ _) ?_;rintro _ dc ⟨rfl,m5,iv⟩;refine⟨m5.1,?_⟩;have aB:=al.mut m5 iv;have jD:=aB.cell;generalize gP T ((aq T s.at_).kind==1) l.length 8 s=j9 at aB ak;refine zz (Bs ad ?_) ?_
    ·have key: ∀nQ:J,nQ.get c=some (.row false 3 [.str nm::v::[.int .i64 et]])->cd (am P nQ 23 (.ptr c 0 1)) v=true:=λnQ bW=>by
      simp-implicitDefEqProofs(disch:=try exact ag) only[am,dy,Nat.reduceAdd,Nat.reduceLeDiff,reduceIte,I.cells,eu,fl,bW,cp]
     simp only[uq,ug,Dv,Dw,DE,List.forall_mem_cons];refine⟨(λv bw=>by cases bw),(λv bw=>by cases bw),(λv bw=>by cases bw),(λv bw=>by cases bw),(λv bw=>by cases bw),(λv bw=>by cases bw),(λv bw=> .inr ?_),(λv bw=>by cases bw),(λv bw=>by cases bw),trivial⟩;cases bw;simp[key _ mj,key _ iD,key _ jD]
    ·refine aY (JX aH aB.dj) ?_;rintro _ fX ⟨rfl,m6,wC⟩;refine⟨m6.1,?_⟩;have aG:=aB.mut m6 wC;have r8:=aG.cell;have zU:=aG.ho.rd;generalize iW T j9=q at aG ak;obtain⟨p,A7⟩:=q;obtain⟨dr,fY,gU,pw,ii,aI,bc,aP⟩:=aG.add U Z p;have fe:=ue vG fX.next (cs:=p.cells) rfl rfl
     have uA:(fX.push (.row false 4 [p.cells])).next<=fY.next:=by simp only[J.b6];exact pw
     have hc:=j_ ii;simp only[I.cells] at hc;simp-implicitDefEqProofs(disch:=try exact ag) only[bj,bO,am,dy,aQ,dy,Nat.reduceAdd,Nat.reduceLeDiff,reduceIte,I.cells,eu,fl,dD,fE,hc,r8,fe,gU,ks,aI,bc,ii,zU,jD];refine aY (yD aH aP.dj [59]) ?_;rintro _ jG ⟨rfl,m8,Ox⟩;refine⟨m8.1,?_⟩;exact Pw aH U eH n m jG _ _ dr Z (by simp;omega) (aP.mut m8 Ox) ak
  ·have mi:(s.aA != 0)=true:=by simpa using a6
   have ib:(s.aA==0)=false:=by simpa using a6
   rw[ib] at ak;cases ak;simp-implicitDefEqProofs(disch:=try exact ag) only[bj,bO,mi,Bool.not_true];exact eH _ _ h
end
end
end Go.Proofs.YtghmbpmaafnodaaGreatDoor
