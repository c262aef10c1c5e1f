/-
  Texts of one proof, laid together: Sg.
-/
import Derived.Test.YtghmbpmaafnodaaGreatDoorMV
set_option linter.unusedVariables false
set_option linter.unusedSimpArgs false
namespace Go.Proofs.YtghmbpmaafnodaaGreatDoor
open Go.f7
open Nat (reduceAdd reduceLeDiff)
theorem eR.beq{α:Type}{K:pt α}{H:J}{ok:Nat->Prop}{l:List α}{v:I}(h:eR K H ok l v):I.beq v v=true:=by
 rcases h with⟨rfl,_⟩|⟨L,i,cap,ro,els,rfl,_⟩|⟨L,i,cap,rfl,_⟩<;>simp[I.beq]
theorem Rg{α β Dn:Type}{K:pt α}{aqg:pt β}{aos:pt Dn}{H:J}{ok:Nat->Prop}{l:List α}{m:List β}{n:List Dn}{u v w:I}(h:eR K H ok l u)(bZ:eR aqg H ok m v)(aoQ:eR aos H ok n w):cd (some (.agg [u,v,w])) (.agg [u,v,w])=true:=by
 simp[cd,I.beq,jA.beq,h.beq,bZ.beq,aoQ.beq]
theorem agh{H:J}(aX:jv.ko H)(s t:bk):W (j9 (au P ao) (.str s) (.str t) H) λv H'=>v= .bool true/\aR H H':=by
 rw[j9];by_cases ax:(3000:Int)<s.length
 ·simp-implicitDefEqProofs(disch:=try exact ag) only[reduceAdd,reduceLeDiff,reduceIte,az,ax,decide_true];exact a8.2 ⟨rfl,.refl _⟩
 by_cases hm:(3000:Int)<t.length
 ·simp-implicitDefEqProofs(disch:=try exact ag) only[reduceAdd,reduceLeDiff,reduceIte,az,ax,hm,decide_true,decide_false];exact a8.2 ⟨rfl,.refl _⟩
 obtain⟨p,q,bA,bg,he,eD⟩:=KN s;obtain⟨asj,Jl,-,Nw,-,-⟩:=KN t;obtain⟨Jk,Z3,apt,apu,apa,-⟩:=KN (10::32::s);have oG:=abX (s:=s) Z bg apu;rw[he] at eD;simp-implicitDefEqProofs(disch:=try exact ag) only[reduceAdd,reduceLeDiff,reduceIte,az,ax,hm,decide_false];refine aY (Qs s (g':=q.1) (s':=q.2) (bL _) (bL _) bg) ?_;rintro _ H1 ⟨ch,cf,ci,rfl,bd,a2,a3,aU⟩;refine⟨aU.1,?_⟩;have cZ:=bd.one;have dk:=a2.one;have dJ:=a3.one;generalize j3 s q.1 q.2=x at eD oG bd a2 a3 ⊢;obtain⟨g,e,f⟩:=x;simp only at eD oG bd a2 a3 ⊢;have aJ:=(aR.push H1 (.row false 3 [[ch,cf,ci]])).bV (.row false 2 [[.int .i64 e,.int .i64 f]])
 have fv:=(aR.push (H1.push (.row false 3 [[ch,cf,ci]])) (.row false 2 [[.int .i64 e,.int .i64 f]])).get (J.ca H1 (.row false 3 [[ch,cf,ci]]));have hF:=J.ca (H1.push (.row false 3 [[ch,cf,ci]])) (.row false 2 [[.int .i64 e,.int .i64 f]]);simp only[J.b6] at hF;simp-implicitDefEqProofs(disch:=try exact ag) only[reduceAdd,reduceLeDiff,reduceIte,az,J.h8,cZ,dk,dJ];generalize (H1.push (.row false 3 [[ch,cf,ci]])).push (.row false 2 [[.int .i64 e,.int .i64 f]])=bl at aJ fv hF ⊢;refine aY (Qs t (g':=Jl.1) (s':=Jl.2) (bL _) (bL _) Nw) ?_;rintro _ cQ ⟨oL,j8,f_,rfl,c_,cD,b3,bz⟩;refine⟨bz.1,?_⟩;have cE:=c_.one
 have cx:=cD.one;have eM:=b3.one;generalize j3 t Jl.1 Jl.2=y at c_ cD b3 ⊢;obtain⟨g',cC,nc⟩:=y;simp only at c_ cD b3 ⊢;have E_:=bz.get fv;have Fa:=bz.get hF;have eI:=J.aW E_;have fB:=J.aW Fa;have bK:=(aR.push cQ (.row false 3 [[oL,j8,f_]])).bV (.row false 2 [[.int .i64 cC,.int .i64 nc]]);have gc:=(aR.push (cQ.push (.row false 3 [[oL,j8,f_]])) (.row false 2 [[.int .i64 cC,.int .i64 nc]])).get (J.ca cQ (.row false 3 [[oL,j8,f_]]));have F2:=J.ca (cQ.push (.row false 3 [[oL,j8,f_]])) (.row false 2 [[.int .i64 cC,.int .i64 nc]]);simp only[J.b6] at F2;have pc:=bK.get E_;have qg:=bK.get Fa;simp-implicitDefEqProofs(disch:=try exact ag) only[reduceAdd,reduceLeDiff,reduceIte,az,J.h8,cE,cx,eM,cZ,dk,dJ]
 generalize (cQ.push (.row false 3 [[oL,j8,f_]])).push (.row false 2 [[.int .i64 cC,.int .i64 nc]])=cu at bK gc F2 pc qg ⊢;have pn:=bz.trans bK;have pp:=(aJ.trans bz).trans bK;have gB:=aU.trans pp;by_cases nd:e=0
 ·subst nd;by_cases YL:cC=0
  ·subst YL;have ani:aZ P .add 9 true (.str [10,32]) (.str s)=some (.str (10::32::s)):=adD 9 true [10,32] s (by simp only[List.length_cons,List.length_nil];omega);simp-implicitDefEqProofs(disch:=try exact ag) only[reduceAdd,reduceLeDiff,reduceIte,az,E_,Fa,pc,qg,gc,F2,bne_self_eq_false,ani];refine aY (PE (aX.aK gB) (10::32::s) (g':=Jk.1) (s':=Jk.2) (bL _) (bL _) apt) ?_;rw[apa];rintro _ dc ⟨Ga,F3,F1,rfl,bJ,c2,c3,cO⟩;refine⟨cO.1,?_⟩;obtain⟨NI,jP⟩:=oG rfl;have gj:=bJ.one;have e3:=c2.one;have gk:=c3.one;generalize j3 (10::32::s) Z3.1 Z3.2=z at NI jP bJ c2 c3 ⊢;obtain⟨g3,dm,f3⟩:=z;simp only at NI jP bJ c2 c3 ⊢
   subst NI;have M1:=cO.get pc;have M4:=cO.get gc;have gL:=J.aW M1;have hO:=J.aW M4;have e2:=(aR.push dc (.row false 3 [[Ga,F3,F1]])).bV (.row false 2 [[.int .i64 0,.int .i64 f3]]);have ZU:=(aR.push (dc.push (.row false 3 [[Ga,F3,F1]])) (.row false 2 [[.int .i64 0,.int .i64 f3]])).get (J.ca dc (.row false 3 [[Ga,F3,F1]]));have Oj:=J.ca (dc.push (.row false 3 [[Ga,F3,F1]])) (.row false 2 [[.int .i64 0,.int .i64 f3]]);simp only[J.b6] at Oj;have r5:=e2.get M1;have Ig:=e2.get M4;simp-implicitDefEqProofs(disch:=try exact ag) only[reduceAdd,reduceLeDiff,reduceIte,az,J.h8,cE,cx,eM,cZ,dk,dJ,gj,e3,gk];generalize (dc.push (.row false 3 [[Ga,F3,F1]])).push (.row false 2 [[.int .i64 0,.int .i64 f3]])=fX at e2 ZU Oj r5 Ig ⊢
   simp-implicitDefEqProofs(disch:=try exact ag) only[reduceAdd,reduceLeDiff,reduceIte,az,M1,M4,r5,Ig];have t6:=cO.trans e2;have Iz:=pp.trans t6;have Iy:=bK.trans t6;refine aY (Gn eD (bd.bo (d_.aK Iz)) (a2.bo (d_.aK Iz)) (a3.bo (d_.aK Iz)) (c_.bo (d_.aK Iy)) (cD.bo (d_.aK Iy)) (b3.bo (d_.aK Iy))) ?_;rintro _ fY ⟨rfl,h7⟩;refine⟨h7.1,?_⟩;have M2:=h7.get r5;have M5:=h7.get Ig;simp-implicitDefEqProofs(disch:=try exact ag) only[reduceAdd,reduceLeDiff,reduceIte,az,M2,M5];have IA:=Iz.trans h7;have NY:=Iy.trans h7;refine aY (aaq eD (bd.bo (d_.aK IA)) (a2.bo (d_.aK IA)) (a3.bo (d_.aK IA)) (c_.bo (d_.aK NY)) (cD.bo (d_.aK NY)) (b3.bo (d_.aK NY))) ?_
   rintro _ jG ⟨rfl,je⟩;refine⟨je.1,?_⟩;have M3:=je.get M2;have YC:=je.get M5;have NX:=h7.trans je;have aoM:=NX.get ZU;have aoN:=NX.get Oj;have kk:(oZ g g'==oZ g g')=true:=by simp
   simp-implicitDefEqProofs(disch:=try exact ag) only[reduceAdd,reduceLeDiff,reduceIte,az,M3,aoM,aoN,kk,beq_self_eq_true,BB,Bx,BA,By,Bz];have IB:=IA.trans je;have NZ:=e2.trans NX;refine hh (Gn eD (bd.bo (d_.aK IB)) (a2.bo (d_.aK IB)) (a3.bo (d_.aK IB)) (bJ.bo (d_.aK NZ)) (c2.bo (d_.aK NZ)) (c3.bo (d_.aK NZ))) ?_;rw[jP];rintro _ gK ⟨rfl,mA⟩;refine⟨mA.1,?_⟩;simp-implicitDefEqProofs(disch:=try exact ag) only[bj,bO,BB,Bx,BA,By,Bz];have Z2:=aU.trans (IB.trans mA);refine hh (Kb (aX.aK Z2)) ?_;rintro _ X_ ⟨rfl,sg⟩;refine⟨sg.1,?_⟩;have YB:=mA.get M3;have YD:=mA.get YC;have ang:=sg.get YB;have anh:=sg.get YD
   simp-implicitDefEqProofs(disch:=try exact ag) only[bj,bO];have Dk: ∀nQ:J,nQ.get H1.next=some (.row false 3 [[ch,cf,ci]])->cd (am P nQ 26 (.ptr H1.next 0 0)) (.agg [ch,cf,ci])=true:=λnQ bW=>by
    simp-implicitDefEqProofs(disch:=try exact ag) only[am,dy,Nat.reduceAdd,Nat.reduceLeDiff,reduceIte,I.cells,eu,fl,bW];exact Rg bd a2 a3
   have nU: ∀nQ:J,nQ.get cQ.next=some (.row false 3 [[oL,j8,f_]])->cd (am P nQ 26 (.ptr cQ.next 0 0)) (.agg [oL,j8,f_])=true:=λnQ bW=>by
    simp-implicitDefEqProofs(disch:=try exact ag) only[am,dy,Nat.reduceAdd,Nat.reduceLeDiff,reduceIte,I.cells,eu,fl,bW];exact Rg c_ cD b3
   refine zz (Bs ad ?_) ?_
   ·simp only[uq,ug,Dv,Dw,DE,List.forall_mem_cons];refine⟨λ_ _=> .inl rfl,λ_ _=> .inl rfl,λ_ _=> .inl rfl,λv bw=> .inr ?_,λv bw=> .inr ?_,λ_ _=> .inl rfl,λ_ _=> .inl rfl,λ_ _=> .inl rfl,λ_ _=> .inl rfl,λ_ _=> .inl rfl,λ_ _=> .inl rfl,λ_ _=> .inl rfl,λ_ _=> .inl rfl,λ_ _=> .inl rfl,λ_ _=> .inl rfl,λ_ _=> .inl rfl,λ_ _=> .inl rfl,λ_ _=> .inl rfl,λ_ _=> .inl rfl,λ_ _=> .inl rfl,λ_ _=> .inl rfl,trivial⟩
    ·cases bw;simp[Dk _ r5,Dk _ M2,Dk _ M3,Dk _ YB,Dk _ ang]
    ·cases bw;simp[nU _ Ig,nU _ M5,nU _ YC,nU _ YD,nU _ anh]
   ·exact a8.2 ⟨rfl,Z2.trans sg⟩
  ·have ay:(cC != 0)=true:=by simpa using YL
   simp-implicitDefEqProofs(disch:=try exact ag) only[reduceAdd,reduceLeDiff,reduceIte,az,E_,Fa,pc,qg,gc,F2,ay,bne_self_eq_false];refine aY (Kb (aX.aK gB)) ?_;rintro _ dc ⟨rfl,cO⟩;exact⟨cO.1,a8.2 ⟨rfl,gB.trans cO⟩⟩
 ·have ay:(e != 0)=true:=by simpa using nd
  simp-implicitDefEqProofs(disch:=try exact ag) only[reduceAdd,reduceLeDiff,reduceIte,az,E_,Fa,pc,qg,gc,F2,ay];refine aY (Kb (aX.aK gB)) ?_;rintro _ dc ⟨rfl,cO⟩;exact⟨cO.1,a8.2 ⟨rfl,gB.trans cO⟩⟩
end Go.Proofs.YtghmbpmaafnodaaGreatDoor
