/-
  Texts of one proof, laid together: Oh Oi ShD SgF Pa Pb.
-/
import Derived.Test.YtmhhnnklfcbgfaaGreatMI
set_option linter.unusedVariables false
set_option linter.unusedSimpArgs false
set_option linter.defProp false
open Option renaming some→A,none→Z
open Bool renaming true→J,false→I
open Go.cv.af renaming int→D,bool→C
open Go.IntKind renaming i64→F
namespace Go.Proofs.YtmhhnnklfcbgfaaGreat
open Go.cv
open Nat (reduceAdd reduceLeDiff)
section
open Go.a2
set_option maxRecDepth 2000
section
variable {H:ae}{ok:Nat->Prop}{x:bq}{f:Nat}{c:bQ}{i:In}{a b cc d v w wi:af}
def dm(h:aI aN H ok i.args wi)(l:Nat):fl l (.agg (cf i wi))=A (.ptr l 0 0,.row I 6 [cf i wi]):=zB h i.op i.a i.b i.c i.n l
def gK{zI:Nat}(h:H.get zI=A (.row I 6 [cf i wi])):aJ P H 89 (.ptr zI 0 0)=A (.agg (cf i wi)):=Oy h
theorem j8(n:Nat):((n:Int)==0)=(n==0):=al
theorem AK(hw:aI aN H ok i.args wi)(d:(i.op==13)=I):W (aK P aD 240 [.agg (cf i wi),C J,C I,C I,C J] H) λr H'=>r= C ((i.b==0)&&((i.c==0)&&(i.args.length==0)))/\aw H H':=by
 refine oZ 0 ?_;have g:=aw.push H (.row I 6 [cf i wi]);have U:(H.push (.row I 6 [cf i wi])).get H.next=A (.row I 6 [[D F i.op,D F i.a,D F i.b,D F i.c,D F i.n,wi]]):=ae.a1 _ _
 have f:=fU U;cases ai:(i.b==0)with
 |false=>
  refine cu @fL.eq_1 (dm hw) (o U) ai ?_;grind[aE]
 |true=>
  cases ay:(i.c==0)with
  |false=>
   refine dd @fL.eq_1 (dm hw) (o U) ai ay ?_;grind[aE]
  |true=>
   cases e:(i.args.length==0)with
   |false=>
    refine bb @fL.eq_1 (dm hw) f (o U) (hw.bf bV) (ag @j8 (ag d (ag ai (ag ay e)))) ?_;grind[aE]
   |true=>
    refine bb @fL.eq_1 (dm hw) f (o U) (hw.bf bV) (ag @j8 (ag d (ag ai (ag ay e)))) ?_;grind[aE]
theorem AJ(hw:aI aN H ok i.args wi)(d:(i.op==13)=I):W (aK P aD 240 [.agg (cf i wi),C J,C I,C I,C I] H) λr H'=>r= C ((i.b==0)&&((i.c==0)&&((i.n==0)&&(i.args.length==0))))/\aw H H':=by
 refine oZ 0 ?_;have g:=aw.push H (.row I 6 [cf i wi]);have U:(H.push (.row I 6 [cf i wi])).get H.next=A (.row I 6 [[D F i.op,D F i.a,D F i.b,D F i.c,D F i.n,wi]]):=ae.a1 _ _
 have f:=fU U;cases ai:(i.b==0)with
 |false=>
  refine cu @fL.eq_1 (dm hw) (o U) ai ?_;grind[aE]
 |true=>
  cases ay:(i.c==0)with
  |false=>
   refine dd @fL.eq_1 (dm hw) (o U) ai ay ?_;grind[aE]
  |true=>
   cases aM:(i.n==0)with
   |false=>
    refine bb @fL.eq_1 (dm hw) (o U) ai ay aM ?_;grind[aE]
   |true=>
    cases e:(i.args.length==0)with
    |false=>
     refine bb @fL.eq_1 (dm hw) f (o U) (hw.bf bV) (ag @j8 (ag d (ag ai (ag ay (ag aM e))))) ?_;grind[aE]
    |true=>
     refine bb @fL.eq_1 (dm hw) f (o U) (hw.bf bV) (ag @j8 (ag d (ag ai (ag ay (ag aM e))))) ?_;grind[aE]
theorem P6(hw:aI aN H ok i.args wi)(d:(i.op==13)=I):W (aK P aD 240 [.agg (cf i wi),C J,C J,C I,C I] H) λr H'=>r= C ((i.c==0)&&((i.n==0)&&(i.args.length==0)))/\aw H H':=by
 refine oZ 0 ?_;have g:=aw.push H (.row I 6 [cf i wi]);have U:(H.push (.row I 6 [cf i wi])).get H.next=A (.row I 6 [[D F i.op,D F i.a,D F i.b,D F i.c,D F i.n,wi]]):=ae.a1 _ _
 have f:=fU U;cases ay:(i.c==0)with
 |false=>
  refine cu @fL.eq_1 (dm hw) (o U) ay ?_;grind[aE]
 |true=>
  cases aM:(i.n==0)with
  |false=>
   refine dd @fL.eq_1 (dm hw) (o U) ay aM ?_;grind[aE]
  |true=>
   cases e:(i.args.length==0)with
   |false=>
    refine bb @fL.eq_1 (dm hw) f (o U) (hw.bf bV) (ag @j8 (ag d (ag ay (ag aM e)))) ?_;grind[aE]
   |true=>
    refine bb @fL.eq_1 (dm hw) f (o U) (hw.bf bV) (ag @j8 (ag d (ag ay (ag aM e)))) ?_;grind[aE]
theorem P7(hw:aI aN H ok i.args wi)(d:(i.op==13)=I):W (aK P aD 240 [.agg (cf i wi),C J,C J,C I,C J] H) λr H'=>r= C ((i.c==0)&&(i.args.length==0))/\aw H H':=by
 refine oZ 0 ?_;have g:=aw.push H (.row I 6 [cf i wi]);have U:(H.push (.row I 6 [cf i wi])).get H.next=A (.row I 6 [[D F i.op,D F i.a,D F i.b,D F i.c,D F i.n,wi]]):=ae.a1 _ _
 have f:=fU U;cases ay:(i.c==0)with
 |false=>
  refine cu @fL.eq_1 (dm hw) (o U) ay ?_;grind[aE]
 |true=>
  cases e:(i.args.length==0)with
  |false=>
   refine bb @fL.eq_1 (dm hw) f (o U) (hw.bf bV) (ag @j8 (ag d (ag ay e))) ?_;grind[aE]
  |true=>
   refine bb @fL.eq_1 (dm hw) f (o U) (hw.bf bV) (ag @j8 (ag d (ag ay e))) ?_;grind[aE]
theorem AL(hw:aI aN H ok i.args wi)(d:(i.op==13)=I):W (aK P aD 240 [.agg (cf i wi),C J,C J,C J,C I] H) λr H'=>r= C ((i.n==0)&&(i.args.length==0))/\aw H H':=by
 refine oZ 0 ?_;have g:=aw.push H (.row I 6 [cf i wi]);have U:(H.push (.row I 6 [cf i wi])).get H.next=A (.row I 6 [[D F i.op,D F i.a,D F i.b,D F i.c,D F i.n,wi]]):=ae.a1 _ _
 have f:=fU U;cases aM:(i.n==0)with
 |false=>
  refine cu @fL.eq_1 (dm hw) (o U) aM ?_;grind[aE]
 |true=>
  cases e:(i.args.length==0)with
  |false=>
   refine bb @fL.eq_1 (dm hw) f (o U) (hw.bf bV) (ag @j8 (ag d (ag aM e))) ?_;grind[aE]
  |true=>
   refine bb @fL.eq_1 (dm hw) f (o U) (hw.bf bV) (ag @j8 (ag d (ag aM e))) ?_;grind[aE]
theorem ads(hw:aI aN H ok i.args wi)(d:(i.op==13)=I):W (aK P aD 240 [.agg (cf i wi),C J,C J,C J,C J] H) λr H'=>r= C (i.args.length==0)/\aw H H':=by
 refine oZ 0 ?_;have g:=aw.push H (.row I 6 [cf i wi]);have U:(H.push (.row I 6 [cf i wi])).get H.next=A (.row I 6 [[D F i.op,D F i.a,D F i.b,D F i.c,D F i.n,wi]]):=ae.a1 _ _
 have f:=fU U;cases e:(i.args.length==0)with
 |false=>
  refine bb @fL.eq_1 (dm hw) f (hw.bf bV) @j8 (ag d e) ?_;grind[aE]
 |true=>
  refine bb @fL.eq_1 (dm hw) f (hw.bf bV) @j8 (ag d e) ?_;grind[aE]
theorem adq(hw:aI aN H ok i.args wi)(d:(i.op==13)=J):W (aK P aD 240 [.agg (cf i wi),C J,C I,C J,C I] H) λr H'=>r= C ((i.b==0)&&(i.n==0))/\aw H H':=by
 refine oZ 0 ?_;have f:=aw.push H (.row I 6 [cf i wi]);have U:(H.push (.row I 6 [cf i wi])).get H.next=A (.row I 6 [[D F i.op,D F i.a,D F i.b,D F i.c,D F i.n,wi]]):=ae.a1 _ _
 have e:=fU U;cases ai:(i.b==0)with
 |false=>
  refine cu @fL.eq_1 (dm hw) (o U) ai ?_;grind[aE]
 |true=>
  cases aM:(i.n==0)with
  |false=>
   refine dd @fL.eq_1 (dm hw) (o U) ai aM ?_;grind[aE]
  |true=>
   refine bb @fL.eq_1 (dm hw) e (o U) d (ag ai aM) ?_;grind[aE]
theorem adp(hw:aI aN H ok i.args wi)(d:(i.op==13)=I):W (aK P aD 240 [.agg (cf i wi),C I,C I,C I,C J] H) λr H'=>r= C ((i.a==0)&&((i.b==0)&&((i.c==0)&&(i.args.length==0))))/\aw H H':=by
 refine oZ 0 ?_;have g:=aw.push H (.row I 6 [cf i wi]);have U:(H.push (.row I 6 [cf i wi])).get H.next=A (.row I 6 [[D F i.op,D F i.a,D F i.b,D F i.c,D F i.n,wi]]):=ae.a1 _ _
 have f:=fU U;cases ah:(i.a==0)with
 |false=>
  refine cu @fL.eq_1 (dm hw) (o U) ah ?_;grind[aE]
 |true=>
  cases ai:(i.b==0)with
  |false=>
   refine dd @fL.eq_1 (dm hw) (o U) ah ai ?_;grind[aE]
  |true=>
   cases ay:(i.c==0)with
   |false=>
    refine bb @fL.eq_1 (dm hw) (o U) ah ai ay ?_;grind[aE]
   |true=>
    cases e:(i.args.length==0)with
    |false=>
     refine bb @fL.eq_1 (dm hw) f (o U) (hw.bf bV) (ag @j8 (ag d (ag ah (ag ai (ag ay e))))) ?_;grind[aE]
    |true=>
     refine bb @fL.eq_1 (dm hw) f (o U) (hw.bf bV) (ag @j8 (ag d (ag ah (ag ai (ag ay e))))) ?_;grind[aE]
theorem adr(hw:aI aN H ok i.args wi)(d:(i.op==13)=I):W (aK P aD 240 [.agg (cf i wi),C J,C I,C J,C J] H) λr H'=>r= C ((i.b==0)&&(i.args.length==0))/\aw H H':=by
 refine oZ 0 ?_;have g:=aw.push H (.row I 6 [cf i wi]);have U:(H.push (.row I 6 [cf i wi])).get H.next=A (.row I 6 [[D F i.op,D F i.a,D F i.b,D F i.c,D F i.n,wi]]):=ae.a1 _ _
 have f:=fU U;cases ai:(i.b==0)with
 |false=>
  refine cu @fL.eq_1 (dm hw) (o U) ai ?_;grind[aE]
 |true=>
  cases e:(i.args.length==0)with
  |false=>
   refine bb @fL.eq_1 (dm hw) f (o U) (hw.bf bV) (ag @j8 (ag d (ag ai e))) ?_;grind[aE]
  |true=>
   refine bb @fL.eq_1 (dm hw) f (o U) (hw.bf bV) (ag @j8 (ag d (ag ai e))) ?_;grind[aE]
theorem VM(hw:aI aN H ok i.args wi):W (aK P aD 217 [.agg (cf i wi)] H) λr H'=>r= C (decide (1<=i.op/\i.op<=20)&&named i)/\aw H H':=by
 refine afQ 0 ?_;have d:=aw.push H (.row I 6 [cf i wi]);have U:(H.push (.row I 6 [cf i wi])).get H.next=A (.row I 6 [[D F i.op,D F i.a,D F i.b,D F i.c,D F i.n,wi]]):=ae.a1 _ _
 have e:=fU U;by_cases ah:i.op=1
 ·have t:∀j:Int,(i.op==j)=(1==j):=λj=>by rw[ah]
  simp-implicitDefEqProofs(disch:=try exact aY)only[hS,h4,h5,h6,h7,h8,gk,reduceAdd,reduceLeDiff,reduceIte,bB,dm hw,e,gK U,t,Int.reduceBEq];refine bz (AK (hw.aC d) al) λK p=> ?_
  exact aE.2 ⟨by rw[named,ah];simp,d.trans p⟩
 have E:(i.op==1)=false:=beq_eq_false_iff_ne.2 ah;by_cases ai:i.op=2
 ·have t:∀j:Int,(i.op==j)=(2==j):=λj=>by rw[ai]
  simp-implicitDefEqProofs(disch:=try exact aY)only[hS,h4,h5,h6,h7,h8,gk,reduceAdd,reduceLeDiff,reduceIte,bB,dm hw,e,gK U,t,Int.reduceBEq];refine bz (AJ (hw.aC d) al) λK p=> ?_
  exact aE.2 ⟨by rw[named,ai];simp,d.trans p⟩
 have Y:(i.op==2)=false:=beq_eq_false_iff_ne.2 ai;by_cases ay:i.op=3
 ·have t:∀j:Int,(i.op==j)=(3==j):=λj=>by rw[ay]
  simp-implicitDefEqProofs(disch:=try exact aY)only[hS,h4,h5,h6,h7,h8,gk,reduceAdd,reduceLeDiff,reduceIte,bB,dm hw,e,gK U,t,Int.reduceBEq];refine bz (P6 (hw.aC d) al) λK p=> ?_
  exact aE.2 ⟨by rw[named,ay];simp,d.trans p⟩
 have ad:(i.op==3)=false:=beq_eq_false_iff_ne.2 ay;by_cases aM:i.op=4
 ·have t:∀j:Int,(i.op==j)=(4==j):=λj=>by rw[aM]
  simp-implicitDefEqProofs(disch:=try exact aY)only[hS,h4,h5,h6,h7,h8,gk,reduceAdd,reduceLeDiff,reduceIte,bB,dm hw,e,gK U,t,Int.reduceBEq];refine bz (ads (hw.aC d) al) λK p=> ?_
  exact aE.2 ⟨by rw[named,aM];simp,d.trans p⟩
 have af:(i.op==4)=false:=beq_eq_false_iff_ne.2 aM;by_cases f:i.op=5
 ·have t:∀j:Int,(i.op==j)=(5==j):=λj=>by rw[f]
  simp-implicitDefEqProofs(disch:=try exact aY)only[hS,h4,h5,h6,h7,h8,gk,reduceAdd,reduceLeDiff,reduceIte,bB,dm hw,e,gK U,t,Int.reduceBEq];refine bz (P7 (hw.aC d) al) λK p=> ?_
  exact aE.2 ⟨by rw[named,f];simp,d.trans p⟩
 have aj:(i.op==5)=false:=beq_eq_false_iff_ne.2 f;by_cases g:i.op=6
 ·have t:∀j:Int,(i.op==j)=(6==j):=λj=>by rw[g]
  simp-implicitDefEqProofs(disch:=try exact aY)only[hS,h4,h5,h6,h7,h8,gk,reduceAdd,reduceLeDiff,reduceIte,bB,dm hw,e,gK U,t,Int.reduceBEq];refine bz (AL (hw.aC d) al) λK p=> ?_
  exact aE.2 ⟨by rw[named,g];simp,d.trans p⟩
 have ak:(i.op==6)=false:=beq_eq_false_iff_ne.2 g;by_cases h:i.op=7
 ·have t:∀j:Int,(i.op==j)=(7==j):=λj=>by rw[h]
  simp-implicitDefEqProofs(disch:=try exact aY)only[hS,h4,h5,h6,h7,h8,gk,reduceAdd,reduceLeDiff,reduceIte,bB,dm hw,e,gK U,t,Int.reduceBEq];refine bz (AL (hw.aC d) al) λK p=> ?_
  exact aE.2 ⟨by rw[named,h];simp,d.trans p⟩
 have am:(i.op==7)=false:=beq_eq_false_iff_ne.2 h;by_cases k:i.op=8
 ·have t:∀j:Int,(i.op==j)=(8==j):=λj=>by rw[k]
  simp-implicitDefEqProofs(disch:=try exact aY)only[hS,h4,h5,h6,h7,h8,gk,reduceAdd,reduceLeDiff,reduceIte,bB,dm hw,e,gK U,t,Int.reduceBEq];refine bz (AL (hw.aC d) al) λK p=> ?_
  exact aE.2 ⟨by rw[named,k];simp,d.trans p⟩
 have an:(i.op==8)=false:=beq_eq_false_iff_ne.2 k;by_cases l:i.op=9
 ·have t:∀j:Int,(i.op==j)=(9==j):=λj=>by rw[l]
  simp-implicitDefEqProofs(disch:=try exact aY)only[hS,h4,h5,h6,h7,h8,gk,reduceAdd,reduceLeDiff,reduceIte,bB,dm hw,e,gK U,t,Int.reduceBEq];refine bz (AL (hw.aC d) al) λK p=> ?_
  exact aE.2 ⟨by rw[named,l];simp,d.trans p⟩
 have ao:(i.op==9)=false:=beq_eq_false_iff_ne.2 l;by_cases m:i.op=10
 ·have t:∀j:Int,(i.op==j)=(10==j):=λj=>al
  simp-implicitDefEqProofs(disch:=try exact aY)only[hS,h4,h5,h6,h7,h8,gk,reduceAdd,reduceLeDiff,reduceIte,bB,dm hw,e,gK U,t,Int.reduceBEq];refine bz (P6 (hw.aC d) al) λK p=> ?_
  exact aE.2 ⟨by grind[named],d.trans p⟩
 have G:(i.op==10)=false:=beq_eq_false_iff_ne.2 m;by_cases o:i.op=11
 ·have t:∀j:Int,(i.op==j)=(11==j):=λj=>al
  simp-implicitDefEqProofs(disch:=try exact aY)only[hS,h4,h5,h6,h7,h8,gk,reduceAdd,reduceLeDiff,reduceIte,bB,dm hw,e,gK U,t,Int.reduceBEq];refine bz (AK (hw.aC d) al) λK p=> ?_
  exact aE.2 ⟨by grind[named],d.trans p⟩
 have L:(i.op==11)=false:=beq_eq_false_iff_ne.2 o;by_cases q:i.op=12
 ·have t:∀j:Int,(i.op==j)=(12==j):=λj=>al
  simp-implicitDefEqProofs(disch:=try exact aY)only[hS,h4,h5,h6,h7,h8,gk,reduceAdd,reduceLeDiff,reduceIte,bB,dm hw,e,gK U,t,Int.reduceBEq];refine bz (P7 (hw.aC d) al) λK p=> ?_
  exact aE.2 ⟨by grind[named],d.trans p⟩
 have M:(i.op==12)=false:=beq_eq_false_iff_ne.2 q;by_cases s:i.op=13
 ·have t:∀j:Int,(i.op==j)=(13==j):=λj=>al
  simp-implicitDefEqProofs(disch:=try exact aY)only[hS,h4,h5,h6,h7,h8,gk,reduceAdd,reduceLeDiff,reduceIte,bB,dm hw,e,gK U,t,Int.reduceBEq];refine bz (adq (hw.aC d) al) λK p=> ?_
  exact aE.2 ⟨by grind[named],d.trans p⟩
 have N:(i.op==13)=false:=beq_eq_false_iff_ne.2 s;by_cases u:i.op=14
 ·have t:∀j:Int,(i.op==j)=(14==j):=λj=>al
  simp-implicitDefEqProofs(disch:=try exact aY)only[hS,h4,h5,h6,h7,h8,gk,reduceAdd,reduceLeDiff,reduceIte,bB,dm hw,e,gK U,t,Int.reduceBEq];refine bz (AJ (hw.aC d) aa) λK p=> ?_
  exact aE.2 ⟨by grind[named],d.trans p⟩
 have O:(i.op==14)=false:=beq_eq_false_iff_ne.2 u;by_cases v:i.op=15
 ·have t:∀j:Int,(i.op==j)=(15==j):=λj=>al
  simp-implicitDefEqProofs(disch:=try exact aY)only[hS,h4,h5,h6,h7,h8,gk,reduceAdd,reduceLeDiff,reduceIte,bB,dm hw,e,gK U,t,Int.reduceBEq];refine bz (AJ (hw.aC d) aa) λK p=> ?_
  exact aE.2 ⟨by grind[named],d.trans p⟩
 have Q:(i.op==15)=false:=beq_eq_false_iff_ne.2 v;by_cases w:i.op=16
 ·have t:∀j:Int,(i.op==j)=(16==j):=λj=>al
  simp-implicitDefEqProofs(disch:=try exact aY)only[hS,h4,h5,h6,h7,h8,gk,reduceAdd,reduceLeDiff,reduceIte,bB,dm hw,e,gK U,t,Int.reduceBEq];refine bz (adp (hw.aC d) aa) λK p=> ?_
  exact aE.2 ⟨by grind[named],d.trans p⟩
 have R:(i.op==16)=false:=beq_eq_false_iff_ne.2 w;by_cases x:i.op=17
 ·have t:∀j:Int,(i.op==j)=(17==j):=λj=>al
  simp-implicitDefEqProofs(disch:=try exact aY)only[hS,h4,h5,h6,h7,h8,gk,reduceAdd,reduceLeDiff,reduceIte,bB,dm hw,e,gK U,t,Int.reduceBEq];refine bz (adr (hw.aC d) aa) λK p=> ?_
  exact aE.2 ⟨by grind[named],d.trans p⟩
 have S:(i.op==17)=false:=beq_eq_false_iff_ne.2 x;by_cases y:i.op=18
 ·have t:∀j:Int,(i.op==j)=(18==j):=λj=>al
  simp-implicitDefEqProofs(disch:=try exact aY)only[hS,h4,h5,h6,h7,h8,gk,reduceAdd,reduceLeDiff,reduceIte,bB,dm hw,e,gK U,t,Int.reduceBEq];refine bz (AJ (hw.aC d) aa) λK p=> ?_
  exact aE.2 ⟨by grind[named],d.trans p⟩
 have T:(i.op==18)=false:=beq_eq_false_iff_ne.2 y;by_cases z:i.op=19
 ·have t:∀j:Int,(i.op==j)=(19==j):=λj=>al
  simp-implicitDefEqProofs(disch:=try exact aY)only[hS,h4,h5,h6,h7,h8,gk,reduceAdd,reduceLeDiff,reduceIte,bB,dm hw,e,gK U,t,Int.reduceBEq];refine bz (AK (hw.aC d) aa) λK p=> ?_
  exact aE.2 ⟨by grind[named],d.trans p⟩
 have V:(i.op==19)=false:=beq_eq_false_iff_ne.2 z;by_cases B:i.op=20
 ·have t:∀j:Int,(i.op==j)=(20==j):=λj=>al
  simp-implicitDefEqProofs(disch:=try exact aY)only[hS,h4,h5,h6,h7,h8,gk,reduceAdd,reduceLeDiff,reduceIte,bB,dm hw,e,gK U,t,Int.reduceBEq];refine bz (AK (hw.aC d) aa) λK p=> ?_
  exact aE.2 ⟨by grind[named],d.trans p⟩
 have ab:(i.op==20)=false:=beq_eq_false_iff_ne.2 B;simp-implicitDefEqProofs(disch:=try exact aY)only[hS,h4,h5,h6,h7,h8,gk,reduceAdd,reduceLeDiff,reduceIte,bB,dm hw,e,gK U,E,Y,ad,af,aj,ak,am,an,ao,G,L,M,N,O,Q,R,S,T,V,ab];grind[aE,decide_eq_false]
def VV(x:bq)(f:Nat)(c:bQ)(i:In)(a b cc d v w wi:af):ey P 280 [(0,.agg [a,b,cc,d,D F x.main]),(1,D F f),(2,.agg (cL c v w)),(3,.agg (cf i wi))]=A (.agg (cJ x f c i a b cc d v w wi)):=KT rfl
def dh{zX:Nat}{m:Int}(g:H.get zX=A (.row I 5 [[a,b,cc,d,D F m]])):aJ P H 22 (.ptr zX 0 0)=A a/\aJ P H 23 (.ptr zX 0 1)=A b/\aJ P H 24 (.ptr zX 0 2)=A cc/\aJ P H 25 (.ptr zX 0 3)=A d/\aJ P H 3 (.ptr zX 0 4)=A (D F m):=by
 exact kP g
theorem aa5{V q:af}(aF:cE H ok x V)(aP:zb H ok i q)(f:Nat){c:bQ}(aB:x.ax[f]? =A c)(B:∀g∈x.ax,g.vars.length<=1000000000)(hm:c.vars.all (eK x.ca.length)=J):W (aK P aD 168 [V,D F f,q] H) λr H'=>r= C (dM x f c i)/\aw H H':=by
 obtain⟨_,rfl,a,b,cc,d,rfl,ah,ai,ay,aM⟩:=aF;obtain⟨_,rfl,wi,rfl,i1⟩:=aP;have S:=(List.getElem?_eq_some_iff.1 aB).1;have z:c.vars.length<=1000000000:=al;have E:∀v,(a7 c v).d<=1000:=λv=>by
  unfold a7;cases h:eR c.vars v with
  |none=>simp[bw]
  |some u=>
   have:=List.all_eq_true.1 hm u (List.mem_of_getElem? (KO.1 h).2);grind[eK]
 refine afm 0 ?_;have e:aw H ((H.push (.row I 5 [[a,b,cc,d,D F x.main]])).push (.row I 6 [cf i wi])):=(aw.push _ _).trans (aw.push _ _);have aQ:((H.push (.row I 5 [[a,b,cc,d,D F x.main]])).push (.row I 6 [cf i wi])).get H.next=A (.row I 5 [[a,b,cc,d,D F x.main]]):=(aw.push _ _).get (ae.a1 _ _)
 have U:((H.push (.row I 5 [[a,b,cc,d,D F x.main]])).push (.row I 6 [cf i wi])).get (H.next+1)=A (.row I 6 [cf i wi]):=ae.a1 _ _;have s:∀l,fl l (.agg [D F i.op,D F i.a,D F i.b,D F i.c,D F i.n,wi])=A (.ptr l 0 0,.row I 6 [cf i wi]):=λl=>dm i1 l
 refine bT @Hx.eq_1 (dQ ah ai ay aM) s ?_;generalize ((H.push (.row I 5 [[a,b,cc,d,D F x.main]])).push (.row I 6 [cf i wi]))=H0 at*;have iD:=ae.bm aQ;have T:=ae.bm U;generalize H.next+1=zI at*
 generalize H.next=zX at*
 have t:=ah.aC e;have w:=ai.aC e;have k:=ay.aC e;have y:=aM.aC e;have o:=i1.aC e;obtain⟨pp,gv,gw,O,Q,bS,b2⟩:=k.sV (j:=(f:Int)) (g:=c) aa al;have Y:bG (A (.agg [a,b,cc,d,D F x.main])) (.agg [a,b,cc,d,D F x.main])=true:=by simp[bG,af.beq,e9.beq,ah.rd,ai.rd,ay.rd,aM.rd]
 refine bT (dh aQ) (gK U) (k.bf cG) ?_;refine cY (VM o) λK p=> ?_
 rw[ajl];cases m:(decide (1<=i.op/\i.op<=20)&&named i)with
 |false=>
  refine bM ?_;refine aE.2 ⟨?_,e.trans p⟩;grind[decide_eq_false_iff_not,eH]
 |true=>
  simp only[Bool.and_eq_true,decide_eq_true_eq]at m;obtain⟨⟨G,L⟩,aL⟩:=m;refine bb (dh (p.get aQ)) (cq (p.get aQ)) (gK (p.get U)) O (Q _ p) @VV ?_;refine cY (akV (ok:=ok) ⟨t.aC p,w.aC p,k.aC p,y.aC p,bS.aC p,b2.aC p,o.aC p⟩ z B E G L) λR N=> ?_
  have M:=p.trans N;refine bM ?_;exact aE.2 ⟨al,e.trans M⟩
end
end
section
open Go.a2
set_option maxRecDepth 2000
section
variable {H:ae}{ok:Nat->Prop}{x:bq}{f:Nat}{c:bQ}{i:In}{a b cc d v w wi:af}
def aI.rf{l:List In}{v:af}(h:aI fJ H ok l v){j:Int}{i:In}(a:0<=j)(b:l[j.toNat]? =A i):∃L n wi,ct P 47 v (D F j)=A (.ptr L n 0)/\(∀H',aw H H'->aJ P H' 89 (.ptr L n 0)=A (.agg (cf i wi))/\aJ P H' 3 (.ptr L n 0)=A (D F i.op))/\aI aN H ok i.args wi:=by
 obtain⟨L,n,ro,els,cs,ah,_,ai,ay,wi,rfl,aM⟩:=h.at_ (K:=fJ) eJ a b;refine⟨L,n,wi,ah,λH' p=>⟨?_,?_⟩,aM⟩
 ·exact hA (n:=6) (c:=0) aG aG (p.get ai) ay (by exact ds 6)
 ·have g:H'.get L=A (.row ro 6 els):=p.get ai;exact te g ay
theorem abI{l:List In}(h:1<=l.length):∃i,l[l.length-1]? =A i/\lr l=i.op:=by
 have ah:l.length-1<l.length:=aa;refine⟨l[l.length-1],al,?_⟩;grind[lr]
theorem Xc{zX zC:Nat}(b5:H.get zC=A (.row I 7 [cL c v w]))(hw:aI fJ H ok c.ins w)(ah:1<=c.ins.length)(ar:c.ins.length<=1000000000){N:Nat}:
  W (tF (aK P aD) N (.ptr zC 0 0) H) λr H'=>r= C (kN (lr c.ins))/\aw H H':=by
 obtain⟨i,h,g⟩:=abI ah;have b:IntKind.i64.wrap ((c.ins.length:Int)-1)=((c.ins.length-1:Nat):Int):=by grind[wrap_i64]
 obtain⟨L,n,wi,d,e,k⟩:=hw.rf (j:=((c.ins.length-1:Nat):Int)) (i:=i) aa al;have l2:=h2 b5;rw[g,kN];cases a:(i.op==16)with
 |true=>
  refine bb @tF.eq_1 l2 (hw.bf eJ) b d (ag ((e _ (aw.refl _)).2) a) ?_;grind[aE,aw.refl]
 |false=>
  cases f:(i.op==17)with
  |true=>
   refine bb @tF.eq_1 l2 (hw.bf eJ) b d (ag ((e _ (aw.refl _)).2) (ag a f)) ?_;grind[aE,aw.refl]
  |false=>
   refine bb @tF.eq_1 l2 (hw.bf eJ) b d (ag ((e _ (aw.refl _)).2) (ag a f)) ?_;grind[aE,aw.refl]
theorem LI{zX zC:Nat}(aB:x.ax[f]? =A c)(e:∀g∈x.ax,g.vars.length<=1000000000)(hm:c.vars.all (eK x.ca.length)=J)(ah:1<=c.ins.length)(ar:c.ins.length<=1000000000){N:Nat}:∀(j k m:Nat) (H:ae),k+j=c.ins.length->j<m->H.get zX=A (.row I 5 [[a,b,cc,d,D F x.main]])->H.get zC=A (.row I 7 [cL c v w])->cE H ok x (.agg [a,b,cc,d,D F x.main])->aI fJ H ok c.ins w->
  W (tG (aK P aD) N m (D F f) (.ptr zX 0 0) (.ptr zC 0 0) w (D F c.ins.length) (D F k) H) λr H'=>r= C ((c.ins.drop k).all (dM x f c)&&kN (lr c.ins))/\aw H H'
 |_,_,0,_,_,hm,_,_,_,_=>aa
 |0,k,m+1,H,l,_,aQ,b5,aF,hw=>by
  have z:¬(k:Int)<(c.ins.length:Int):=aa;refine bF @tG.eq_2 @Bc.eq_1 ?_;rw[List.drop_of_length_le aa,List.all_nil,Bool.true_and];exact Xc (zX:=zX) b5 hw ah ar
 |j+1,k,m+1,H,l,B,aQ,b5,aF,hw=>by
  have o:k<c.ins.length:=aa;obtain⟨L,n,wi,t,u,h⟩:=hw.rf (j:=(k:Int)) (i:=c.ins[k]) aa al;have on:=LI (zX:=zX) (zC:=zC) aB e hm ah ar (N:=N) j (k+1) m;rw[List.drop_eq_getElem_cons o,List.all_cons];generalize c.ins[k]=i at*;have st:=qD (i:=i) (w:=wi) (ae.a1 H (.row I 6 [[D F 0,D F 0,D F 0,D F 0,D F 0,.aq]])) h.one;have pp:=aw.push H (.row I 6 [cf i wi]);have U:=ae.a1 H (.row I 6 [cf i wi]);refine bb @tG.eq_2 @Bc.eq_1 t (u _ (aw.refl _)) st (ag @ae.gD (ag (cq (pp.get aQ)) (gK U))) ?_;refine bz (aa5 (aF.aC pp) ⟨_,rfl,wi,rfl,h.aC pp⟩ f aB e hm) λK p=> ?_
  have q:=pp.trans p;cases E:dM x f c i with
  |false=>
   refine bM ?_;grind[aE]
  |true=>
   refine bM ?_;refine(on K aa aa (q.get aQ) (q.get b5) (aF.aC q) (hw.aC q)).mono ?_;rintro r y ⟨rfl,s⟩;exact⟨aW,q.trans s⟩
theorem Xd{V:af}(aF:cE H ok x V)(f:Nat){c:bQ}(aB:x.ax[f]? =A c)(ab:∀g∈x.ax,g.vars.length<=1000000000)(hlen:∀c∈x.ax,c.ins.length<=1000000000):W (aK P aD 126 [V,D F f] H) λr H'=>r= C (codeOk x f c)/\aw H H':=by
 obtain⟨_,rfl,a,b,cc,d,rfl,ah,ai,ay,aM⟩:=aF;have an:=(List.getElem?_eq_some_iff.1 aB).1;have Y:c.vars.length<=1000000000:=al;have ar:c.ins.length<=1000000000:=al;refine ae1 (c.ins.length+1) ?_;have E:=aw.push H (.row I 5 [[a,b,cc,d,D F x.main]]);have y:=ae.a1 H (.row I 5 [[a,b,cc,d,D F x.main]]);obtain⟨pp,gv,gw,Q,R,bS,b2⟩:=(ay.aC E).sV (j:=(f:Int)) (g:=c) aa al;have st:=o8 (c:=c) (v:=gv) (w:=gw) (ae.a1 (H.push (.row I 5 [[a,b,cc,d,D F x.main]])) (.row I 7 [[D F 0,.aq,C I,D F 0,D F 0,D F 0,.aq]])) bS.one b2.one;simp only[kT]at st
 have n:aw H ((H.push (.row I 5 [[a,b,cc,d,D F x.main]])).push (.row I 7 [cL c gv gw])):=E.trans (aw.push _ _);have aQ:((H.push (.row I 5 [[a,b,cc,d,D F x.main]])).push (.row I 7 [cL c gv gw])).get H.next=A (.row I 5 [[a,b,cc,d,D F x.main]]):=(aw.push _ _).get y
 have b5:((H.push (.row I 5 [[a,b,cc,d,D F x.main]])).push (.row I 7 [cL c gv gw])).get (H.next+1)=A (.row I 7 [cL c gv gw]):=ae.a1 _ _;have m:=bS.aC (aw.push _ (.row I 7 [cL c gv gw]));have B:=b2.aC (aw.push _ (.row I 7 [cL c gv gw]));refine bb @Hc.eq_1 (dQ ah ai ay aM) (dh y) Q (R _ (aw.refl _)) (ag st @ae.gD) ?_;clear st Q R bS b2;generalize ((H.push (.row I 5 [[a,b,cc,d,D F x.main]])).push (.row I 7 [cL c gv gw]))=H0 at*;have iD:=ae.bm aQ;have iS:=ae.bm b5;generalize H.next+1=zC at*
 clear E y;generalize H.next=zX at*
 have L:cE H0 ok x (.agg [a,b,cc,d,D F x.main]):=⟨_,rfl,a,b,cc,d,rfl,ah.aC n,ai.aC n,ay.aC n,aM.aC n⟩;have l2:=h2 b5;rw[codeOk];have bad:¬(0<=c.params/\c.params<=6/\c.params<=c.vars.length/\c.vars.length<=4000/\1<=c.ins.length)->∀z:Bool,W (A (af.bool I,H0)) λr H'=>r= C (decide (0<=c.params/\c.params<=6/\c.params<=c.vars.length/\c.vars.length<=4000/\1<=c.ins.length)&&z)/\aw H H':=(by grind[aE,decide_eq_false])
 by_cases bu:c.params<0
 ·simp-implicitDefEqProofs(disch:=try exact aY)only[reduceAdd,reduceLeDiff,reduceIte,bB,l2,bu,decide_true];exact bad aa _
 by_cases a6:6<c.params
 ·simp-implicitDefEqProofs(disch:=try exact aY)only[reduceAdd,reduceLeDiff,reduceIte,bB,l2,bu,a6,decide_true,decide_false];exact bad aa _
 by_cases bd:(c.vars.length:Int)<c.params
 ·simp-implicitDefEqProofs(disch:=try exact aY)only[reduceAdd,reduceLeDiff,reduceIte,bB,l2,bu,a6,bd,m.len cW,decide_true,decide_false];exact bad aa _
 by_cases bo:(4000:Int)<(c.vars.length:Int)
 ·simp-implicitDefEqProofs(disch:=try exact aY)only[reduceAdd,reduceLeDiff,reduceIte,bB,l2,bu,a6,bd,bo,m.len cW,decide_true,decide_false];exact bad aa _
 cases bO:((c.ins.length:Int)==0)with
 |true=>
  have T:(c.ins.length:Int)=0:=al;simp-implicitDefEqProofs(disch:=try exact aY)only[reduceAdd,reduceLeDiff,reduceIte,bB,l2,bu,a6,bd,bo,bO,m.len cW,B.len eJ,decide_true,decide_false];exact bad aa _
 |false=>
 have T:¬(c.ins.length:Int)=0:=al;have U:1<=c.ins.length:=aa;rw[decide_eq_true aa,Bool.true_and];simp-implicitDefEqProofs(disch:=try exact aY)only[reduceAdd,reduceLeDiff,reduceIte,bB,l2,bu,a6,bd,bo,bO,m.len cW,B.len eJ,decide_true,decide_false,cq aQ];refine cY (NQ L m Y) λK o=> ?_
 have G:=n.trans o;cases hm:c.vars.all (eK x.ca.length)with
 |false=>
  refine bM ?_;grind[aE]
 |true=>
 have l:=o.get aQ;have e:=o.get b5;have q:=h2 e;have M:=L.aC o;have s:bG (A (.agg [a,b,cc,d,D F x.main])) (.agg [a,b,cc,d,D F x.main])=true:=by simp[bG,af.beq,e9.beq,ah.rd,ai.rd,ay.rd,aM.rd]
 have go:∀k,aw K k->W (aU (bP P 49 (.ptr zC 0 0) 4) λaj=>aU (aJ P k 47 aj) λS=>eU P .len [47] [S] k λak=>tG (aK P aD) (c.ins.length+1) (c.ins.length+1) (D F f) (.ptr zX 0 0) (.ptr zC 0 0) S ak (D F 0) k) λr H'=>r= C (c.ins.all (dM x f c)&&kN (lr c.ins))/\aw H H':=by
  intro k h;have N:=B.aC (o.trans h);refine bF (h2 (h.get e)) (N.bf eJ) ?_;refine(LI (v:=gv) aB ab hm U ar c.ins.length 0 (c.ins.length+1) k aa aa (h.get l) (h.get e) (M.aC h) N).mono ?_;rintro r am ⟨rfl,ad⟩;exact⟨al,G.trans (h.trans ad)⟩
 refine bK q ?_;cases i:c.has with
 |true=>
  rw[i]at q;refine bF (cq l) (rn e) ?_;refine cY (z8 M c.res) λt h=> ?_
  have O:=h2 (h.get e);rw[i]at O;cases au:eK x.ca.length c.res with
  |false=>
   refine bM ?_;refine dy (λH' p=>(ag (cq (p.get l)) (ag (rn (p.get e)) (ag (h2 (p.get e)) (ag i (ag s (ag eY vP))))))) (aE.2 ⟨rfl,G.trans h⟩)
  |true=>
   refine ajy @Bool.not_true O ?_;refine dy (λH' p=>(ag (cq (p.get l)) (ag (rn (p.get e)) (ag (h2 (p.get e)) (ag i (ag s (ag eY vP))))))) ?_;have g:=go t h;rw[Bool.true_and,Bool.true_and];simp-implicitDefEqProofs(disch:=try exact aY)only[reduceAdd,reduceLeDiff,reduceIte,bB]at g ⊢;exact g
 |false=>
  rw[i]at q;refine bK q ?_;refine cY Gv λt h=> ?_
  refine bF (rn (h.get e)) @iW ?_;by_cases au:c.res=bw
  ·have u:decide (c.res≠bw)=false:=al;rw[u,decide_eq_true au];refine ajx ?_;refine dy (λH' p=>(ag (cq (p.get l)) (ag (rn (p.get e)) (ag (h2 (p.get e)) (ag i (ag s (ag eY vP))))))) ?_;have g:=go t h;rw[Bool.true_and,Bool.true_and];simp-implicitDefEqProofs(disch:=try exact aY)only[reduceAdd,reduceLeDiff,reduceIte,bB]at g ⊢;exact g
  ·have u:decide (c.res≠bw)=true:=al;rw[u,decide_eq_false au];refine bM ?_;refine dy (λH' p=>(ag (cq (p.get l)) (ag (rn (p.get e)) (ag (h2 (p.get e)) (ag i (ag s (ag eY vP))))))) (aE.2 ⟨rfl,G.trans h⟩)
def sW(x:bq):List bQ->Nat->Nat->Bool
 |[],_,_=>J
 |c::cs,s,f=>decide (s+c.ins.length<=2500)&&(codeOk x f c&&sW x cs (s+c.ins.length) (f+1))
theorem LJ(x:bq):∀(cs:List bQ) (s f:Nat),s<=2500->sW x cs s f=(decide (s+hz cs<=2500)&&kI x cs f)
 |[],s,f,h=>by simp[sW,hz,kI,h]
 |c::cs,s,f,h=>by
  rw[sW,hz,kI];by_cases ah:s+c.ins.length<=2500
  ·have e:decide (s+(c.ins.length+hz cs)<=2500)=decide (s+c.ins.length+hz cs<=2500):=al;rw[LJ x cs _ _ ah,decide_eq_true ah,Bool.true_and,e];grind
  grind
theorem LL{zX:Nat}(h:∀g∈x.ax,g.vars.length<=1000000000)(hlen:∀c∈x.ax,c.ins.length<=1000000000)(o:x.ax.length<=1000000000){N:Nat}:∀(j k m q:Nat) (H:ae),k+j=x.ax.length->j<m->q<=2500->H.get zX=A (.row I 5 [[a,b,cc,d,D F x.main]])->cE H ok x (.agg [a,b,cc,d,D F x.main])->aI fO H ok x.ax cc->
  W (ur (aK P aD) N m (.ptr zX 0 0) (D F q) cc (D F x.ax.length) (D F k) H) λr H'=>r= C (sW x (x.ax.drop k) q k)/\aw H H'
 |_,_,0,_,_,_,hm,_,_,_,_=>aa
 |0,k,m+1,q,H,s,_,_,aQ,aF,ay=>by
  have z:¬(k:Int)<(x.ax.length:Int):=aa;refine bT @ur.eq_2 @yd.eq_1 @IZ.eq_1 ?_;rw[List.drop_of_length_le aa];exact aE.2 ⟨rfl,aw.refl _⟩
 |j+1,k,m+1,q,H,s,B,aH,aQ,aF,ay=>by
  have i:k<x.ax.length:=aa;obtain⟨pp,gv,gw,l,n,bS,b2⟩:=ay.sV (j:=(k:Int)) (g:=x.ax[k]) aa al;have ar:=hlen _ (List.getElem_mem i);have aB:x.ax[k]? =A x.ax[k]:=al;have on:=LL (zX:=zX) h hlen o (N:=N) j (k+1) m;rw[List.drop_eq_getElem_cons i,sW];generalize x.ax[k]=c at*;have st:=o8 (c:=c) (v:=gv) (w:=gw) (ae.a1 H (.row I 7 [[D F 0,.aq,C I,D F 0,D F 0,D F 0,.aq]])) bS.one b2.one;have f:=aw.push H (.row I 7 [cL c gv gw]);have b5:=ae.a1 H (.row I 7 [cL c gv gw]);have l2:=h2 b5;have u:IntKind.i64.wrap ((q:Int)+(c.ins.length:Int))=((q+c.ins.length:Nat):Int):=by grind[wrap_i64]
  by_cases ah:(2500:Int)<((q+c.ins.length:Nat):Int)
  ·refine bb @ur.eq_2 @yd.eq_1 l (n _ (aw.refl _)) st (ag @ae.gD (ag l2 (ag (b2.bf eJ) aa))) ?_;grind[aE]
  ·refine bb @ur.eq_2 @yd.eq_1 l (n _ (aw.refl _)) st (ag @ae.gD (ag l2 (ag (b2.bf eJ) (ag u (ag ah (cq (f.get aQ))))))) ?_;refine cY (Xd (aF.aC f) k aB h hlen) λK p=> ?_
   have e:=f.trans p;rw[decide_eq_true aa,Bool.true_and];cases E:codeOk x k c with
   |false=>
    refine bM ?_;grind[aE]
   |true=>
    refine bM ?_;refine(on (q+c.ins.length) K aa aa aa (e.get aQ) (aF.aC e) (ay.aC e)).mono ?_;rintro r y ⟨rfl,t⟩;exact⟨al,e.trans t⟩
theorem Xe{V:af}(aF:cE H ok x V)(h:∀g∈x.ax,g.vars.length<=1000000000)(hlen:∀c∈x.ax,c.ins.length<=1000000000)(i:x.ax.length<=1000000000):W (aK P aD 76 [V] H) λr H'=>r= C (decide (hz x.ax<=2500)&&kI x x.ax 0)/\aw H H':=by
 obtain⟨_,rfl,a,b,cc,d,rfl,ah,ai,ay,aM⟩:=aF;refine agQ (x.ax.length+1) ?_;have e:=aw.push H (.row I 5 [[a,b,cc,d,D F x.main]]);have f:=ae.a1 H (.row I 5 [[a,b,cc,d,D F x.main]]);refine cu @IY.eq_1 (dQ ah ai ay aM) (dh f) (ay.bf cG) ?_;refine(LL h hlen i x.ax.length 0 (x.ax.length+1) 0 _ aa aa aa f ⟨_,rfl,a,b,cc,d,rfl,ah.aC e,ai.aC e,ay.aC e,aM.aC e⟩ (ay.aC e)).mono ?_;rintro r k ⟨rfl,j⟩;refine⟨?_,e.trans j⟩;grind[LJ]
theorem rh{V:af}(aF:cE H ok x V)(E:∀g∈x.ax,g.vars.length<=1000000000)(hlen:∀c∈x.ax,c.ins.length<=1000000000):W (aK P aD 35 [V] H) λr H'=>r= C (right x)/\aw H H':=by
 obtain⟨_,rfl,a,b,cc,d,rfl,ah,ai,ay,aM⟩:=aF;refine ags 0 ?_;have y:=aw.push H (.row I 5 [[a,b,cc,d,D F x.main]]);have e:=ae.a1 H (.row I 5 [[a,b,cc,d,D F x.main]]);have f:=dQ ah ai ay aM x.main;have T:(λl:List cS=>decide (l.length<=8)&&l.all (eK x.ca.length))=nS x:=rfl;have bad:¬(x.ca.length<=12/\x.globals.length<=8/\1<=x.ax.length/\x.ax.length<=16/\x.sites.length<=60)->W (A (af.bool I,H.push (.row I 5 [[a,b,cc,d,D F x.main]]))) λr H'=>r= C (right x)/\aw H H':=(by grind[aE,right])
 by_cases bu:(12:Int)<(x.ca.length:Int)
 ·simp-implicitDefEqProofs(disch:=try exact aY)only[mg,reduceAdd,reduceLeDiff,reduceIte,bB,f,dh e,ah.len fx,bu,decide_true];grind
 by_cases a6:(8:Int)<(x.globals.length:Int)
 ·simp-implicitDefEqProofs(disch:=try exact aY)only[mg,reduceAdd,reduceLeDiff,reduceIte,bB,f,dh e,ah.len fx,ai.len cW,bu,a6,decide_true,decide_false];grind
 cases bd:((x.ax.length:Int)==0)with
 |true=>
  have B:(x.ax.length:Int)=0:=al;simp-implicitDefEqProofs(disch:=try exact aY)only[mg,reduceAdd,reduceLeDiff,reduceIte,bB,f,dh e,ah.len fx,ai.len cW,ay.len cG,bu,a6,bd,decide_true,decide_false];grind
 |false=>
 have B:¬(x.ax.length:Int)=0:=al;by_cases bo:(16:Int)<(x.ax.length:Int)
 ·simp-implicitDefEqProofs(disch:=try exact aY)only[mg,reduceAdd,reduceLeDiff,reduceIte,bB,f,dh e,ah.len fx,ai.len cW,ay.len cG,bu,a6,bd,bo,decide_true,decide_false];grind
 by_cases bO:(60:Int)<(x.sites.length:Int)
 ·simp-implicitDefEqProofs(disch:=try exact aY)only[mg,reduceAdd,reduceLeDiff,reduceIte,bB,f,dh e,ah.len fx,ai.len cW,ay.len cG,aM.len fV,bu,a6,bd,bo,bO,decide_true,decide_false];grind
 have S:decide (x.ca.length<=12/\x.globals.length<=8/\1<=x.ax.length/\x.ax.length<=16/\x.sites.length<=60)=true:=al;have au:right x=(jA x&&(x.globals.all (eK x.ca.length)&&(x.ca.all (nS x)&&(x.sites.all (jJ x)&&(decide (hz x.ax<=2500)&&kI x x.ax 0))))):=by grind[right]
 rw[au];by_cases i:x.main<0
 ·simp-implicitDefEqProofs(disch:=try exact aY)only[mg,reduceAdd,reduceLeDiff,reduceIte,bB,f,dh e,ah.len fx,ai.len cW,ay.len cG,aM.len fV,bu,a6,bd,bo,bO,i,decide_true,decide_false];grind[aE,jA,gz]
 by_cases m:(x.ax.length:Int)<=x.main
 ·simp-implicitDefEqProofs(disch:=try exact aY)only[mg,reduceAdd,reduceLeDiff,reduceIte,bB,f,dh e,ah.len fx,ai.len cW,ay.len cG,aM.len fV,bu,a6,bd,bo,bO,i,m,decide_true,decide_false];grind[aE,jA,gz]
 have mlt:x.main.toNat<x.ax.length:=aa;have G:jA x=(x.ax[x.main.toNat].params==0&& !x.ax[x.main.toNat].has):=by
  grind[jA,jW]
 obtain⟨pp,gv,gw,s,t,bS,b2⟩:=(ay.aC y).sV (j:=x.main) (g:=x.ax[x.main.toNat]) aa al;rw[G];generalize x.ax[x.main.toNat]=c at*;have st:=o8 (c:=c) (v:=gv) (w:=gw) (ae.a1 (H.push (.row I 5 [[a,b,cc,d,D F x.main]])) (.row I 7 [[D F 0,.aq,C I,D F 0,D F 0,D F 0,.aq]])) bS.one b2.one;simp only[kT]at st;have z:=aw.push (H.push (.row I 5 [[a,b,cc,d,D F x.main]])) (.row I 7 [cL c gv gw]);have h:=y.trans z;have b5:=ae.a1 (H.push (.row I 5 [[a,b,cc,d,D F x.main]])) (.row I 7 [cL c gv gw]);simp only[kT]at b5;have l2:=h2 b5;have aQ:=z.get e
 cases q:(c.params==0)with
 |false=>
  simp-implicitDefEqProofs(disch:=try exact aY)only[mg,reduceAdd,reduceLeDiff,reduceIte,bB,f,dh e,ah.len fx,ai.len cW,ay.len cG,aM.len fV,bu,a6,bd,bo,bO,i,m,decide_true,decide_false,s,t _ (aw.refl _),st,ae.gD,l2,q];grind[aE]
 |true=>
 cases u:c.has with
 |true=>
  rw[u]at l2;simp-implicitDefEqProofs(disch:=try exact aY)only[mg,reduceAdd,reduceLeDiff,reduceIte,bB,f,dh e,ah.len fx,ai.len cW,ay.len cG,aM.len fV,bu,a6,bd,bo,bO,i,m,decide_true,decide_false,s,t _ (aw.refl _),st,ae.gD,l2,q,Bool.not_true];grind[aE]
 |false=>
 rw[u]at l2;simp-implicitDefEqProofs(disch:=try exact aY)only[mg,reduceAdd,reduceLeDiff,reduceIte,bB,f,dh e,ah.len fx,ai.len cW,ay.len cG,aM.len fV,bu,a6,bd,bo,bO,i,m,decide_true,decide_false,s,t _ (aw.refl _),st,ae.gD,l2,q,Bool.not_false,cq aQ];generalize (H.push (.row I 5 [[a,b,cc,d,D F x.main]])).push (.row I 7 [cL c gv gw])=H0 at*;generalize H.next=zX at*
 have k:cE H0 ok x (.agg [a,b,cc,d,D F x.main]):=⟨_,rfl,a,b,cc,d,rfl,ah.aC h,ai.aC h,ay.aC h,aM.aC h⟩;refine cY (ahJ k aa) λK p=> ?_
 cases t1:x.ca.all (nS x)with
 |false=>
  refine bM ?_;exact aE.2 ⟨aW,h.trans p⟩
 |true=>
 refine bF (cq (p.get aQ)) (dh (p.get aQ)) ?_;refine cY (NQ (k.aC p) ((ai.aC h).aC p) aa) λO L=> ?_
 have n:=p.trans L;cases t2:x.globals.all (eK x.ca.length)with
 |false=>
  refine bM ?_;exact aE.2 ⟨aW,h.trans n⟩
 |true=>
 refine bK (cq (n.get aQ)) ?_;refine cY (aa4 (k.aC n) aa) λQ M=> ?_
 have o:=n.trans M;cases t3:x.sites.all (jJ x)with
 |false=>
  refine bM ?_;exact aE.2 ⟨aW,h.trans o⟩
 |true=>
 refine bK (cq (o.get aQ)) ?_;refine cY (Xe (k.aC o) E hlen aa) λR N=> ?_
 refine bM ?_;exact aE.2 ⟨aW,h.trans (o.trans N)⟩
end
end
section
set_option maxRecDepth 100000
set_option maxHeartbeats 4000000
noncomputable section
def ye(G:ao)(N:Nat):eP 3 Tryz.f77 G N (·.ad.ad.ad.ad) (a8 Tryz.f77) []:=⟨_,v1 an⟩
def yf(G:ao)(N:Nat)(L1:ck):dO 3 20 21 22 Tryz.f77 G N (·.ad.ad.ad.aj.ad.aj.aj.ad.ad.ad) (bO L1 3 20 21 22) [(0,(a6 (ye G N) 3))]:=⟨_,v4 an⟩
def Df(G:ao)(N:Nat)(L1:ck)(L3:ei):gZ 3 20 21 22 36 37 38 Tryz.f77 G N (·.ad.ad.ad.aj.ad.aj.aj.ad.ad.aj.aj.ad.ad.ad.aj.aj) (dw L3 3 20 21 22 36 37 38) [(2,(bO (yf G N L1) 3 20 21 22)),(1,(bO (yf G N L1) 3 20 21 22)),(0,(a6 (ye G N) 3))]:=⟨_,hf an⟩
def yh(G:ao)(N:Nat)(L1:ck):Nat->ei
 |0=>k5
 |n+1=>Df G N L1 (yh G N L1 n)
def De(G:ao)(N:Nat)(L1:ck):dO 3 20 21 22 Tryz.f77 G N (·.ad.ad.ad.aj.ad.aj.aj) (bO L1 3 20 21 22) [(0,(a6 (ye G N) 3))]:=⟨_,l6 (ak (ak (ak ((yf G N L1).2) (bh (ak (ak (ak (bh (bH (λm=>(Df G N L1 (yh G N L1 m)).2))) an) an) an))) an) an)⟩
def yg(G:ao)(N:Nat):Nat->ck
 |0=>fB
 |n+1=>De G N (yg G N n)
def I0(G:ao)(N:Nat):f_ Tryz.f77 G N:=⟨_,q3 (ak (ak (ak (ak ((ye G N).2) (ak (bh (bH (λm=>(De G N (yg G N m)).2))) an)) an) an) an)⟩
def agR(N:Nat):=eo Tryz.func77 λG=>(I0 G N).2
def Jb(G:ao):eQ Tryz.f84 G:=⟨_,λN=>pD an (x:=trivial)⟩
def agY(N:Nat):=c6 Tryz.func84 λG=>(Jb G).2 N
def Jc(G:ao):eQ Tryz.f85 G:=⟨_,λN=>t2 an⟩
def agZ(N:Nat):=c6 Tryz.func85 λG=>(Jc G).2 N
def Jj(G:ao):jS Tryz.f98 G:=⟨_,λN=>t3 an⟩
def ag_(N:Nat):=hp Tryz.func98 λG=>(Jj G).2 N
def He(G:ao)(N:Nat):eP 3 Tryz.f127 G N (·.ad.ad.ad) (a8 Tryz.f127) []:=⟨_,v1 an⟩
def Bd(G:ao)(N:Nat)(L1:ck):dO 3 8 9 10 Tryz.f127 G N (·.ad.ad.aj.ad.aj.aj) (bO L1 3 8 9 10) [(0,(a6 (He G N) 3))]:=⟨_,l6 an (x:=trivial)⟩
def tH(G:ao)(N:Nat):Nat->ck
 |0=>fB
 |n+1=>Bd G N (tH G N n)
def Hd(G:ao)(N:Nat):f_ Tryz.f127 G N:=⟨λa H=>fp H (fl (H).next a) λx1 ah=>fp ah (A (.az (ah).next 0 1 1 (A 1),.row I 1 [[D F 0]])) λx6 ai=>aU (bP P 27 x1 2) λx7=>aU (aJ P ai 24 x7) λx8=>eU P .len [24] [x8] ai λx9=>tH G N N x6 x8 x9 (D F 0) ai,Af (ak (ak (ak ((He G N).2) (ak (bh (bH (λm=>(Bd G N (tH G N m)).2))) an)) an) an)⟩
def ae2(N:Nat):=eo Tryz.func127 λG=>(Hd G N).2
def Hf(G:ao):hr Tryz.f128 G:=⟨_,λN=>q3 an (x:=trivial)⟩
def ae3(N:Nat):=eo Tryz.func128 λG=>(Hf G).2 N
def Hi(G:ao):hr Tryz.f131 G:=⟨_,λN=>q3 an (x:=trivial)⟩
def ae7(N:Nat):=eo Tryz.func131 λG=>(Hi G).2 N
def qh(G:ao):oq 0 3 5 9 Tryz.f129 G (·.ad.ad.aj.ad) (a8 Tryz.f129) [(0,(a8 Tryz.f129))]:=⟨_,λN=>l6 an⟩
def Hg(G:ao):eQ Tryz.f129 G:=⟨_,λN=>t2 (ak (ak (bh (ak ((qh G).2 N) an)) an) an)⟩
def ae4(N:Nat):=c6 Tryz.func129 λG=>(Hg G).2 N
def Hy(G:ao):Kh Tryz.f169 G:=⟨_,λN=>t5 an⟩
def afn(N:Nat):=Rc Tryz.func169 λG=>(Hy G).2 N
def Hz(G:ao):eQ Tryz.f170 G:=⟨_,λN=>t2 an⟩
def afp(N:Nat):=c6 Tryz.func170 λG=>(Hz G).2 N
def wR(G:ao)(N:Nat):gT 0 3 Tryz.f171 G N (·.ad.ad) (a8 Tryz.f171) []:=⟨_,hv an⟩
def HB(G:ao)(N:Nat)(L1:cF):e6 0 3 7 8 9 Tryz.f171 G N (·.ad.aj.ad.aj.aj.ad.ad.ad) (b3 L1 0 3 7 8 9) [(0,(bd (wR G N) 0 3))]:=⟨_,v5 an⟩
def BO(G:ao)(N:Nat)(L1:cF):e6 0 3 7 8 9 Tryz.f171 G N (·.ad.aj.ad.aj.aj) (b3 L1 0 3 7 8 9) [(0,(bd (wR G N) 0 3))]:=⟨_,nF (ak (ak (ak ((HB G N L1).2) an) an) an)⟩
def wS(G:ao)(N:Nat):Nat->cF
 |0=>hW
 |n+1=>BO G N (wS G N n)
def HA(G:ao)(N:Nat):gn Tryz.f171 G N:=⟨_,t2 (ak (ak ((wR G N).2) (ak (bh (bH (λm=>(BO G N (wS G N m)).2))) an)) an)⟩
def afq(N:Nat):=c6 Tryz.func171 λG=>(HA G N).2
def BP(G:ao):eQ Tryz.f172 G:=⟨_,λN=>t2 an⟩
def afr(N:Nat):=c6 Tryz.func172 λG=>(BP G).2 N
def HC(G:ao):eQ Tryz.f173 G:=⟨_,λN=>t2 an⟩
def afs(N:Nat):=c6 Tryz.func173 λG=>(HC G).2 N
def HD(G:ao):eQ Tryz.f174 G:=⟨_,λN=>t2 an⟩
def aft(N:Nat):=c6 Tryz.func174 λG=>(HD G).2 N
def HE(G:ao):eQ Tryz.f175 G:=⟨_,λN=>pD an⟩
def afu(N:Nat):=c6 Tryz.func175 λG=>(HE G).2 N
end
end
end Go.Proofs.YtmhhnnklfcbgfaaGreat
namespace Go.a2
open Go.cv
structure mu(x:bq)(f:Nat)(c:bQ):Prop where
 r:ep x
 at_:x.ax[f]? =some c
def mu.ok{x:bq}{f:Nat}{c:bQ}(h:mu x f c):J1 x f c:=hI (h.r.code h.at_)
section
variable {x:bq}{f:Nat}{c:bQ}{i:In}
theorem y1(aX:i.op=3)(h:dM x f c i=J):a7 c i.a≠bw/\a7 c i.a=a7 c i.b:=by
 grind[dM]
theorem y2(aX:i.op=6)(h:dM x f c i=J):a7 c i.a≠bw/\a7 c i.a=fh x (a7 c i.b) i.c:=by
 grind[dM]
theorem y3(aX:i.op=7)(h:dM x f c i=J):a7 c i.b≠bw/\a7 c i.b=fh x (a7 c i.a) i.c:=by
 grind[dM]
theorem y4(aX:i.op=8)(h:dM x f c i=J):a7 c i.a≠bw/\0<(a7 c i.b).d/\a7 c i.c=di/\a7 c i.a=less (a7 c i.b):=by
 grind[dM]
theorem y5(aX:i.op=9)(h:dM x f c i=J):a7 c i.c≠bw/\0<(a7 c i.a).d/\a7 c i.b=di/\a7 c i.c=less (a7 c i.a):=by
 grind[dM]
theorem o9(aX:i.op=11)(h:dM x f c i=J):(a7 c i.a≠bw/\(a7 c i.a).b=3/\(a7 c i.a).d=0)/\je x f i.n (a7 c i.a)=true:=by
 grind[dM]
theorem o_(aX:i.op=12)(h:dM x f c i=J):(0<(a7 c i.a).d/\a7 c i.b=di)/\je x f i.n (a7 c i.a)=true:=by
 grind[dM]
def ni(aX:i.op=13)(h:dM x f c i=J):∃g,JZ x c i g:=by
 unfold dM at h;simp only[Bool.and_eq_true,aX]at h;exact Wk h.2
theorem Te(aX:i.op=18)(h:dM x f c i=J):(c.has=J/\a7 c i.a≠bw/\a7 c i.a=c.res)\/(c.has=I/\i.a= -1):=by
 grind[dM]
theorem uD(aX:i.op=19)(h:dM x f c i=J):a7 c i.a≠bw/\eR x.globals i.n=A (a7 c i.a):=by
 grind[dM]
theorem uE(aX:i.op=20)(h:dM x f c i=J):a7 c i.a≠bw/\eR x.globals i.n=A (a7 c i.a):=by
 grind[dM]
def oD{t:cS}(h:0<t.d):t≠bw:=by rintro rfl;revert h;decide
theorem s5{k:Int}{t:cS}(h:fh x t k≠bw):t≠bw:=by
 grind[fh,m5,bw]
theorem mu.node(w:mu x f c){v:Int}(h:a7 c v≠bw):bj x.ax f+v.toNat<b7 x:=by
 have:=si w.at_ (Gy h).2.1;grind[b7]
theorem mu.res(w:mu x f c):eM x f<b7 x:=by
 have:=(List.getElem?_eq_some_iff.1 w.at_).1;grind[eM,b7]
theorem Ni{t:cS}{n:Int}(h:eR x.globals n=A t):eA x n.toNat<b7 x:=by
 have:=(mD h).2.1;grind[eA,b7]
theorem KF{at_ to:Nat}{k:bt}:∀{l:List Int} {j:Nat},k∈iO c at_ to l j->∃(m:Nat) (v:Int),l[m]? =A v/\dE c v=J/\k= .copy (to+(j+m)) (at_+v.toNat)
 |[],j,h=>by simp[iO]at h
 |v::l,j,h=>by
  simp only[iO,List.mem_append]at h;rcases h with h|h
  ·cases a:dE c v with
   |true=>
    rw[a]at h;simp only[hk,List.mem_singleton]at h;exact⟨0,v,rfl,a,h⟩
   |false=>grind
  ·obtain⟨m,w,ah,ai,ay⟩:=KF h;exact⟨m+1,w,by grind,ai,by grind⟩
theorem oQ{α:Type}{b:Bool}{a k:α}(h:k∈(bif b then[a]else[])):b=J/\k=a:=by
 grind
theorem mu.ak4(w:mu x f c)(h:dM x f c i=J):gy (b7 x) x.sites.length (c5 x f c i):=by
 intro k d;unfold c5 at d;simp only at d;split at d
 ·rename_i aX;obtain⟨ah,ai⟩:=y1 aX h;obtain⟨_,rfl⟩:=oQ d;exact⟨w.node ah,w.node (ai▸ah)⟩
 ·rename_i aX;obtain⟨ah,ai⟩:=y2 aX h;obtain⟨_,rfl⟩:=oQ d;have ay:fh x (a7 c i.b) i.c≠bw:=ai▸ah;exact⟨w.node ah,w.node (s5 ay),(s4 w.r ay).2⟩
 ·rename_i aX;obtain⟨ah,ai,_,_⟩:=y4 aX h;obtain⟨_,rfl⟩:=oQ d;exact⟨w.node ah,w.node (oD ai),by omega⟩
 ·rename_i aX;obtain⟨ah,ai⟩:=y3 aX h;obtain⟨_,rfl⟩:=oQ d;have ay:fh x (a7 c i.a) i.c≠bw:=ai▸ah;exact⟨w.node (s5 ay),w.node ah,(s4 w.r ay).2⟩
 ·rename_i aX;obtain⟨ah,ai,_,_⟩:=y5 aX h;obtain⟨_,rfl⟩:=oQ d;exact⟨w.node (oD ai),w.node ah,by omega⟩
 ·rename_i aX;obtain⟨ah,ai⟩:=o9 aX h;simp only[List.mem_singleton]at d;subst d;exact⟨w.node ah.1,(kF ai).2.1⟩
 ·rename_i aX;obtain⟨ah,ai⟩:=o_ aX h;simp only[List.mem_singleton]at d;subst d;exact⟨w.node (oD ah.1),(kF ai).2.1⟩
 ·rename_i aX;obtain⟨g,aR⟩:=ni aX h;have j:mu x i.c.toNat g:=⟨w.r,aR.at_.2⟩;rcases List.mem_append.1 d with d|d
  ·obtain⟨m,v,ah,ai,rfl⟩:=KF d;obtain⟨ay,aM⟩:=aR.arg ah;have e:=(List.getElem?_eq_some_iff.1 aM).1;have l:=si aR.at_.2 e;refine⟨?_,w.node ay⟩;grind[b7]
  ·obtain⟨ah,rfl⟩:=oQ d;simp only[Bool.and_eq_true]at ah;exact⟨w.node (AX ah.2),j.res⟩
 ·rename_i aX;obtain⟨ah,rfl⟩:=oQ d;simp only[Bool.and_eq_true]at ah;exact⟨w.res,w.node (AX ah.2)⟩
 ·rename_i aX;obtain⟨ah,ai⟩:=uD aX h;obtain⟨_,rfl⟩:=oQ d;exact⟨w.node ah,Ni ai⟩
 ·rename_i aX;obtain⟨ah,ai⟩:=uE aX h;obtain⟨_,rfl⟩:=oQ d;exact⟨Ni ai,w.node ah⟩
 grind
theorem LR{k:bt}:∀{cs:List bQ} {f:Nat},k∈kJ x cs f->∃j c i,cs[j]? =A c/\i∈c.ins/\k∈c5 x (f+j) c i
 |[],f,h=>by simp[kJ]at h
 |c::cs,f,h=>by
  simp only[kJ,List.mem_append,vb,List.mem_flatMap]at h;rcases h with⟨i,ah,ai⟩|h
  ·exact⟨0,c,i,rfl,ah,ai⟩
  ·obtain⟨j,d,i,ah,ai,ay⟩:=LR h;exact⟨j+1,d,i,by grind,ai,by grind⟩
def zO(au:ep x):gy (b7 x) x.sites.length (cons x):=by
 intro k a;obtain⟨j,c,i,ah,ai,ay⟩:=LR a;rw[Nat.zero_add]at ay;have w:mu x j c:=⟨au,ah⟩;exact w.ak4 (w.ok.ins ai) k ay
end
end Go.a2
namespace Go.Proofs.YtmhhnnklfcbgfaaGreat
open Go.cv
open Nat (reduceAdd reduceLeDiff)
section
open Go.a2
set_option maxRecDepth 2000
section
variable {H:ae}{ok:Nat->Prop}{x:bq}
theorem A4(au:ep x){g:bQ}(aR:g∈x.ax):g.vars.length<=4000:=by
 obtain⟨f,aB⟩:=List.getElem?_of_mem aR;exact(hI (au.code aB)).vars
theorem rD(au:ep x):∀g∈x.ax,g.vars.length<=1000000000:=(by grind[A4])
theorem oH:∀{cs:List bQ} {c:bQ},c∈cs->c.ins.length<=hz cs
 |[],_,h=>al
 |d::cs,c,h=>by
  rw[hz];rcases List.mem_cons.1 h with rfl|h
  ·omega
  ·have:=oH h;omega
theorem nT(h:right x=J):hz x.ax<=2500:=by
 grind[right]
theorem rE(h:right x=J):∀c∈x.ax,c.ins.length<=1000000000:=λc aA=>by have:=oH aA;grind[nT]
theorem qJ(au:ep x):∀k,bj x.ax k<=4000*k
 |0=>by simp[bj]
 |k+1=>by
  have a:=qJ au k;grind[bj,A4]
theorem lU(au:ep x):ga x.ax<=64000:=by
 have:=qJ au x.ax.length;have:=au.ax;grind[ga]
def kS(x:bq)(k:Nat):List Int:=(List.range (k+1)).map λj=>(bj x.ax j:Int)
theorem PF(x:bq)(k:Nat):(kS x k).length=k+1:=by simp[kS]
theorem tq(x:bq){k j:Nat}(h:j<=k):(kS x k)[j]? =A (bj x.ax j:Int):=by
 grind[kS]
theorem adh(x:bq)(k:Nat):kS x (k+1)=kS x k++[(bj x.ax (k+1):Int)]:=by
 grind[kS,List.range_succ]
theorem PI(au:ep x){cc:af}{B:Nat}{N:Nat}:∀(j k m:Nat) (H:ae) (v:af),k+j=x.ax.length->j<m->aZ aN B ba H (kS x k) v->B<=H.next->aI fO H (· <B) x.ax cc->
  W (tH (aK P aD) N m v cc (D F x.ax.length) (D F k) H) λr H'=>aZ aN B ba H' (kS x x.ax.length) r/\cg B H H'
 |_,_,0,_,_,_,hm,_,_,_=>aa
 |0,k,m+1,H,v,t,_,ar,f,ay=>by
  have b:¬(k:Int)<(x.ax.length:Int):=aa;refine ajw @tH.eq_2 @Bd.eq_1 @He.eq_1 b @decide_false ?_;have e:k=x.ax.length:=aa;subst e;exact aE.2 ⟨ar,.refl _ _⟩
 |j+1,k,m+1,H,v,t,Q,ar,f,ay=>by
  have b:(k:Int)<(x.ax.length:Int):=aa;have u:k<x.ax.length:=aa;have O:=au.ax;obtain⟨pp,gv,gw,z,E,bS,b2⟩:=ay.sV (j:=(k:Int)) (g:=x.ax[k]) aa al;have y:bj x.ax (k+1)=bj x.ax k+x.ax[k].vars.length:=Ec al;have S:=A4 au (List.getElem_mem u);have R:=qJ au k;have on:=PI au (cc:=cc) (B:=B) (N:=N) j (k+1) m;rw[adh,y]at on;generalize x.ax[k]=c at*;have st:=o8 (c:=c) (v:=gv) (w:=gw) (ae.a1 H (.row I 7 [[D F 0,.aq,C I,D F 0,D F 0,D F 0,.aq]])) bS.one b2.one;have i:=aw.push H (.row I 7 [cL c gv gw]);have b5:=ae.a1 H (.row I 7 [cL c gv gw]);have l2:=h2 b5;have h:=ar.aC i
  obtain⟨p,i1,i2⟩:=h.az.int (j:=(k:Int)) (a:=(bj x.ax k:Int)) aa (by grind[tq]);have K:IntKind.i64.wrap (((k+1:Nat):Int)-1)=(k:Int):=by grind[wrap_i64]
  have L:IntKind.i64.wrap ((bj x.ax k:Int)+(c.vars.length:Int))=((bj x.ax k+c.vars.length:Nat):Int):=by grind[wrap_i64]
  have hlen:=ar.az.len bV (H0:= .empty);rw[PF]at hlen;obtain⟨G,H',d,l,n,o,_⟩:=h.j4 (a:=((bj x.ax k+c.vars.length:Nat):Int)) (by simp;omega) (by grind[PF]);have hle:((H.push (.row I 7 [cL c gv gw])).push (.row I 1 [[D F ((bj x.ax k+c.vars.length:Nat):Int)]])).next<=H'.next:=by simp;simp at o;omega
  simp only[kT]at d;refine ob @tH.eq_2 @Bd.eq_1 b @decide_true z (ag (E _ (aw.refl _)) (ag st (ag @ae.gD (ag hlen (ag K (ag i1 (ag i2 (ag l2 (ag (bS.bf cW) (ag L (ag @c3 d))))))))))) ?_;have pu:cg B H H':=(ek i f).trans n;refine Tn (e8 (show k<=1000000000 by omega)) ?_;refine(on H' G aa aa l (by have:=pu.1;omega) (ay.eu pu)).mono ?_;rintro r M ⟨q,s⟩;exact⟨q,pu.trans s⟩
theorem Gt(au:ep x){V:af}(aF:cE H ok x V):W (aK P aD 127 [V] H) λr H'=>aZ aN H.next ba H' (kS x x.ax.length) r/\aw H H':=by
 obtain⟨_,rfl,a,b,cc,d,rfl,ah,ai,ay,aM⟩:=aF;refine ae2 (x.ax.length+1) ?_;have n:=aw.push H (.row I 5 [[a,b,cc,d,D F x.main]]);have j:=ae.a1 H (.row I 5 [[a,b,cc,d,D F x.main]]);have e:=aw.push (H.push (.row I 5 [[a,b,cc,d,D F x.main]])) (.row I 1 [[D F 0]]);have c:=n.trans e;refine cu @Hd.eq_1 (dQ ah ai ay aM) (dh (e.get j)) (ay.bf cG) ?_;have m:aZ aN H.next ba ((H.push (.row I 5 [[a,b,cc,d,D F x.main]])).push (.row I 1 [[D F 0]])) (kS x 0) (.az (H.next+1) 0 1 1 (A 1)):=⟨.inr ⟨H.next+1,[[D F 0]],A 1,rfl,trivial,ae.a1 _ _,by simp[kS],.inr rfl,λi a aP=>by
  rcases i with _|i
  ·cases aP;exact⟨_,rfl,rfl⟩
  grind[kS]⟩,al⟩
 refine(PI au (B:=H.next) x.ax.length 0 (x.ax.length+1) _ _ aa aa m c.1 (ay.below.keep λk b l g=>⟨l,c.get g⟩)).mono ?_;rintro r o ⟨f,h⟩;exact⟨f,cg.aC ((ek c aa).trans h)⟩
theorem Eb(au:ep x){V:af}(aF:cE H ok x V):W (aK P aD 128 [V] H) λr H'=>r= D F (ga x.ax)/\aw H H':=by
 have g:=aF;obtain⟨_,rfl,a,b,cc,d,rfl,ah,ai,ay,aM⟩:=aF;refine ae3 0 ?_;have e:=aw.push H (.row I 5 [[a,b,cc,d,D F x.main]]);have c:=ae.a1 H (.row I 5 [[a,b,cc,d,D F x.main]]);refine bT @Hf.eq_1 (dQ ah ai ay aM) (cq c) ?_;refine e2 (Gt au (g.aC e)) λnv K f p=> ?_
 obtain⟨q,i1,i2⟩:=f.az.int (j:=(x.ax.length:Int)) (a:=(ga x.ax:Int)) aa (by grind[ga,tq]);have h:bG (A (.agg [a,b,cc,d,D F x.main])) (.agg [a,b,cc,d,D F x.main])=true:=by simp[bG,af.beq,e9.beq,ah.rd,ai.rd,ay.rd,aM.rd]
 refine cu (dh (p.get c)) (ay.bf cG) i1 i2 ?_;refine dy (λH' p=>(ag (cq (p.get c)) (ag (dh (p.get c)) (ag (ay.bf cG) (ag h (ag (dD ay) @fz)))))) (aE.2 ⟨rfl,e.trans p⟩)
theorem Xj(au:right x=J){V:af}(aF:cE H ok x V):W (aK P aD 131 [V] H) λr H'=>r= D F (b7 x:Nat)/\aw H H':=by
 have g:=aF;have e:=fG au;have n:=lU e;have o:=e.ax;have q:=e.globals;obtain⟨_,rfl,a,b,cc,d,rfl,ah,ai,ay,aM⟩:=aF;refine ae7 0 ?_;have f:=aw.push H (.row I 5 [[a,b,cc,d,D F x.main]]);have c:=ae.a1 H (.row I 5 [[a,b,cc,d,D F x.main]]);have j:bG (A (.agg [a,b,cc,d,D F x.main])) (.agg [a,b,cc,d,D F x.main])=true:=by simp[bG,af.beq,e9.beq,ah.rd,ai.rd,ay.rd,aM.rd]
 refine bT @Hi.eq_1 (dQ ah ai ay aM) (cq c) ?_;refine bz (rh (g.aC f) (rD e) (rE au)) λK p=> ?_
 rw[au];refine bK (cq (p.get c)) ?_;refine bz (Eb e ((g.aC f).aC p)) λm i=> ?_
 have h:=p.trans i;have k:IntKind.i64.wrap ((ga x.ax:Int)+(x.ax.length:Int))=((ga x.ax+x.ax.length:Nat):Int):=by grind[wrap_i64]
 have l:IntKind.i64.wrap (((ga x.ax+x.ax.length:Nat):Int)+(x.globals.length:Int))=((b7 x:Nat):Int):=by grind[wrap_i64,b7]
 refine dd (dh (h.get c)) (ay.bf cG) (ai.bf cW) k l ?_;refine dy (λH' p=>(ag (cq (p.get (aw.get ‹_› c))) (ag (dh (p.get (aw.get ‹_› c))) (ag (ay.bf cG) (ag (ai.bf cW) (ag j (ag (dD ay) (ag (dD ai) @fz)))))))) (aE.2 ⟨rfl,f.trans h⟩)
theorem aaf(au:right x=J){V:af}(aF:cE H ok x V){g:Nat}(aR:g<x.globals.length):W (aK P aD 84 [V,D F (g:Nat)] H) λr H'=>r= D F (eA x g:Nat)/\aw H H':=by
 have h:=aF;have e:=fG au;have o:=lU e;have q:=e.ax;have s:=e.globals;obtain⟨_,rfl,a,b,cc,d,rfl,ah,ai,ay,aM⟩:=aF;refine agY 0 ?_;have f:=aw.push H (.row I 5 [[a,b,cc,d,D F x.main]]);have c:=ae.a1 H (.row I 5 [[a,b,cc,d,D F x.main]]);have k:bG (A (.agg [a,b,cc,d,D F x.main])) (.agg [a,b,cc,d,D F x.main])=true:=by simp[bG,af.beq,e9.beq,ah.rd,ai.rd,ay.rd,aM.rd]
 refine bT @Jb.eq_1 (dQ ah ai ay aM) (cq c) ?_;refine bz (rh (h.aC f) (rD e) (rE au)) λK p=> ?_
 rw[au];refine bT (cq (p.get c)) (dh (p.get c)) (ai.bf cW) ?_;refine bz (Eb e ((h.aC f).aC p)) λn j=> ?_
 have i:=p.trans j;have l:IntKind.i64.wrap ((ga x.ax:Int)+(x.ax.length:Int))=((ga x.ax+x.ax.length:Nat):Int):=by grind[wrap_i64]
 have m:IntKind.i64.wrap (((ga x.ax+x.ax.length:Nat):Int)+(g:Int))=((eA x g:Nat):Int):=by grind[wrap_i64,eA]
 refine cu (dh (i.get c)) (ay.bf cG) l m ?_;refine dy (λH' p=>(ag (cq (p.get (aw.get ‹_› c))) (ag (dh (p.get (aw.get ‹_› c))) (ag (ay.bf cG) (ag (ai.bf cW) (ag k (ag (dD ay) (ag (dD ai) @fz)))))))) (aE.2 ⟨rfl,f.trans i⟩)
theorem aep(au:right x=J){V:af}(aF:cE H ok x V){f:Nat}(aB:f<x.ax.length):W (aK P aD 85 [V,D F (f:Nat)] H) λr H'=>r= D F (eM x f:Nat)/\aw H H':=by
 have h:=aF;have c:=fG au;have m:=lU c;have n:=c.ax;have o:=c.globals;obtain⟨_,rfl,a,b,cc,d,rfl,ah,ai,ay,aM⟩:=aF;refine agZ 0 ?_;have g:=aw.push H (.row I 5 [[a,b,cc,d,D F x.main]]);have e:=ae.a1 H (.row I 5 [[a,b,cc,d,D F x.main]]);have q:bG (A (.agg [a,b,cc,d,D F x.main])) (.agg [a,b,cc,d,D F x.main])=true:=by simp[bG,af.beq,e9.beq,ah.rd,ai.rd,ay.rd,aM.rd]
 refine bT @Jc.eq_1 (dQ ah ai ay aM) (cq e) ?_;refine bz (rh (h.aC g) (rD c) (rE au)) λK p=> ?_
 rw[au];refine bT (cq (p.get e)) (dh (p.get e)) (ay.bf cG) ?_;refine bz (Eb c ((h.aC g).aC p)) λl j=> ?_
 have i:=p.trans j;have k:IntKind.i64.wrap ((ga x.ax:Int)+(f:Int))=((eM x f:Nat):Int):=by grind[wrap_i64,eM]
 refine bK k ?_;exact aE.2 ⟨rfl,g.trans i⟩
theorem akQ(au:right x=J){V:af}(aF:cE H ok x V){f v:Nat}{c:bQ}(aB:x.ax[f]? =A c)(o:v<c.vars.length):W (aK P aD 98 [V,D F (f:Nat),D F (v:Nat)] H) λr H'=>r= D F (bj x.ax f+v:Nat)/\aw H H':=by
 have k:=aF;have g:=fG au;have z:=lU g;have B:=g.ax;have G:=g.globals;obtain⟨_,rfl,a,b,cc,d,rfl,ah,ai,ay,aM⟩:=aF;refine ag_ 0 ?_;have h:=aw.push H (.row I 5 [[a,b,cc,d,D F x.main]]);have i:=ae.a1 H (.row I 5 [[a,b,cc,d,D F x.main]]);have N:bG (A (.agg [a,b,cc,d,D F x.main])) (.agg [a,b,cc,d,D F x.main])=true:=by simp[bG,af.beq,e9.beq,ah.rd,ai.rd,ay.rd,aM.rd]
 refine bT @Jj.eq_1 (dQ ah ai ay aM) (cq i) ?_;refine bz (rh (k.aC h) (rD g) (rE au)) λK p=> ?_
 rw[au];have E:=(List.getElem?_eq_some_iff.1 aB).1;have M:=si aB o;obtain⟨L,n,ro,els,y,t,_,l,e,gv,gw,rfl,bS,b2⟩:=((ay.aC h).aC p).at_ (K:=fO) cG (j:=(f:Int)) (a:=c) aa al;have m:K.get L=A (.row ro 7 els):=l;have lv:aJ P K 23 (.ptr L n 1)=A gv:=te m e;refine bb (cq (p.get i)) (dh (p.get i)) (ay.bf cG) t lv (bS.bf cW) ?_;refine e2 (Gt g ((k.aC h).aC p)) λnv w cX s=> ?_
 obtain⟨q,i1,i2⟩:=cX.az.int (j:=(f:Int)) (a:=(bj x.ax f:Int)) aa (by grind[tq]);have u:IntKind.i64.wrap ((bj x.ax f:Int)+(v:Int))=((bj x.ax f+v:Nat):Int):=by grind[wrap_i64]
 refine bT i1 i2 u ?_;exact aE.2 ⟨rfl,h.trans (p.trans s)⟩
end
end
section
open Go.a2
set_option maxRecDepth 2000
def cZ:bt->List af
 | .base a b=>[D F 1,D F (a:Nat),D F (b:Nat),D F 0]
 | .copy a b=>[D F 2,D F (a:Nat),D F (b:Nat),D F 0]
 | .load a b f=>[D F 3,D F (a:Nat),D F (b:Nat),D F (f:Nat)]
 | .store a b f=>[D F 4,D F (a:Nat),D F (b:Nat),D F (f:Nat)]
 | .same a b=>[D F 5,D F (a:Nat),D F (b:Nat),D F 0]
def cU:e0 bt:=⟨4,λ_ _ c cs=>cs=cZ c,by rintro _ _ c _ rfl;cases c<;>exact⟨rfl,rfl⟩,λ_ h=>h⟩
def iG:fj 53 56 4:=⟨aG,aG,⟨32,aG,b0⟩,⟨.agg [D F 0,D F 0,D F 0,D F 0],aG,rfl,rfl⟩,b0⟩
def iV(x:bq)(f:Nat)(c:bQ)(gv gw cA cc rv:af):List af:=[D F c.params,gv,C c.has,D F c.res.b,D F c.res.r,D F c.res.d,gw,cA,D F f,D F (ga x.ax),cc,rv]
structure gS(x:bq)(f:Nat)(c:bQ)(gv gw cA cc:af)(M:Nat)(l:List bt)(H:ae)(rv:af):Prop where
 g:H.get M=some (.row false 12 [iV x f c gv gw cA cc rv])
 r:aZ cU (M+1) ba H l rv
 bS:aI fc H (· <M) c.vars gv
 b2:aI fJ H (· <M) c.ins gw
 aL:aI aN H (· <M) (kS x x.ax.length) cA
 aA:aI fO H (· <M) x.ax cc
section
variable {H:ae}{x:bq}{f:Nat}{c:bQ}{gv gw cA cc rv:af}{M:Nat}{l:List bt}
def gS.lt(m:gS x f c gv gw cA cc M l H rv):M<H.next:=ae.bm m.g
theorem gS.aC{H':ae}(m:gS x f c gv gw cA cc M l H rv)(p:aw H H'):gS x f c gv gw cA cc M l H' rv:=
 ⟨p.get m.g,m.r.aC p,m.bS.aC p,m.b2.aC p,m.aL.aC p,m.aA.aC p⟩
def nM(g:H.get M=A (.row I 12 [iV x f c gv gw cA cc rv])):aJ P H 23 (.ptr M 0 1)=A gv/\aJ P H 30 (.ptr M 0 7)=A cA/\aJ P H 3 (.ptr M 0 8)=A (D F f)/\aJ P H 3 (.ptr M 0 9)=A (D F (ga x.ax))/\aJ P H 24 (.ptr M 0 10)=A cc/\aJ P H 53 (.ptr M 0 11)=A rv:=by
 rw[iV]at g;exact kP g
def Eo(zI:Nat)(rv:af):Prop:=∀L n cap,rv= .az L 0 n 4 cap->zI≠L
theorem aZ.qU{α:Type}{K:e0 α}{H:ae}{ok ok':Nat->Prop}{B:Nat}{H1:ae}{t e:Nat}(y:fj t e K.esz){l:List α}{v:af}{a:α}{cs:List af}(h:aZ K B ok H l v)(m:B<=H.next)(p:aw H H1)(o:K.V H1 (λk=>H.next<=k) a cs)(r:∀k,ok k\/H.next<=k->ok' k)(ar:l.length<=999999999):
  ∃b H',ej P (H1.push (.row I K.esz [cs])) [t,t] v (.az H1.next 0 1 K.esz (A 1))=A (b,H')/\aZ K B ok' H' (l++[a]) b/\cg B H H'/\H1.next<H'.next/\(∀k,k<H1.next->(∀L n c,v= .az L 0 n K.esz c->k≠L)->H'.get k=H1.get k)/\(b=v\/∃n,b= .az (H1.next+1) 0 n K.esz Z):=by
 have pp:=aw.push H1 (.row I K.esz [cs]);have x:=p.1;have w:∀L n c,v= .az L 0 n K.esz c->L<H.next:=λL n c s=>h.eS.lt s
 obtain⟨b,H',f,g,d,i,j⟩:=aZ.app (ok:=ok) (ok':=ok') y ((h.aC p).aC pp) (by simp;omega) (lN.one y (ae.a1 _ _) (K.keep (.aC pp) o)) al al (r _ (.inr (by simp;omega))) al;refine⟨b,H',f,g,((ek p m).trans (ek pp aa)).trans d,by have:=d.1;simp at this;omega,λk u q=> ?_,fH j⟩;rw[i k (by simp;omega) q,ae.eI aa]
theorem Kk(m:gS x f c gv gw cA cc M l H rv)(ar:l.length<=999999998){k a b e:Int}(d:bt)(aA:cZ d=[D F k,D F a,D F b,D F e]):W (aK P aD 169 [.ptr M 0 0,D F k,D F a,D F b,D F e] H) λr H'=>r= .tuple []/\H.next<=H'.next/\cg M H H'/\∃y,gS x f c gv gw cA cc M (l++[d]) H' y/\∀zI,zI<H.next->zI≠M->Eo zI rv->Eo zI y/\H'.get zI=H.get zI:=by
 refine afn 0 ?_;have V:=m.lt;obtain⟨j,H',B,o,u,T,G,N⟩:=aZ.qU (K:=cU) (ok:=ba) (ok':=ba) iG m.r aa (aw.refl H) (a:=d) (cs:=cZ d) rfl (λ_ _=>trivial) aa;have hle:(H.push (.row I 4 [cZ d])).next<=H'.next:=by simp;omega
 have bR:H'.get M=A (.row I 12 [iV x f c gv gw cA cc rv]):=by rw[u.2 M aa];exact m.g
 have az:=ng iG H.next (v:= .agg (cZ d)) (cs:=cZ d) rfl al (by cases d<;>rfl)
 have z:ey P 56 [(0,D F k),(1,D F a),(2,D F b),(3,D F e)]=A (.agg (cZ d)):=by rw[aA];exact KY rfl rfl rfl rfl
 have st:cz P H' 53 (.ptr M 0 11) j=A (H'.set M (.row I 12 [iV x f c gv gw cA cc j])):=by
  have s:=o.az.one;have Q:=dn s;rw[fb (n:=1) aG bR rfl al al b0,Q];rfl
 refine cu @Hy.eq_1 (nM m.g) z az ?_;have E:ej P (H.push (.row I 4 [cZ d])) [53,53] rv (.az H.next 0 1 4 (A 1))=A (j,H'):=B;refine bF E st ?_;have R:=ae.bm bR;have low:∀i,i<M->(H'.set M (.row I 12 [iV x f c gv gw cA cc j])).get i=H.get i:=λi p=>by rw[ae.b_ aa];exact u.2 i aa
 have q:∀{α:Type} {K:e0 α} {l:List α} {v:af},aI K H (· <M) l v->aI K (H'.set M (.row I 12 [iV x f c gv gw cA cc j])) (· <M) l v:=λh=>h.keep λi b p g=>al
 refine aE.2 ⟨rfl,by simp;omega,⟨by simp;omega,low⟩,j,⟨?_,?_,q m.bS,q m.b2,q m.aL,q m.aA⟩,λzI O U p=>⟨λL n cap s=> ?_,?_⟩⟩
 ·exact ae.cO R
 ·refine⟨?_,o.low⟩;rcases o.eS with h|⟨L',els,cap,w,S,ab,t⟩
  ·exact .inl h
  ·have:=o.low _ _ _ w;exact .inr ⟨L',els,cap,w,S,by grind[ae.b_],t.1,t.2.1,t.2.2⟩
 ·rcases N with rfl|⟨Y,rfl⟩
  ·exact p L n cap s
  grind
 ·rw[ae.b_ aa];exact G zI O p
theorem adg(au:ep x)(m:gS x f c gv gw cA cc M l H rv)(aB:x.ax[f]? =A c)(n:Nat)(aL:n<c.vars.length):W (aK P aD 170 [.ptr M 0 0,D F n] H) λr H'=>r= D F ((bj x.ax f+n:Nat):Int)/\aw H H':=by
 refine afp 0 ?_;have e:=(List.getElem?_eq_some_iff.1 aB).1;have h:=si aB aL;have d:=lU au;obtain⟨q,i1,i2⟩:=m.aL.int (j:=(f:Int)) (a:=(bj x.ax f:Int)) aa (by grind[tq]);have b:IntKind.i64.wrap ((bj x.ax f:Int)+(n:Int))=((bj x.ax f+n:Nat):Int):=by grind[wrap_i64]
 refine dd @Hz.eq_1 (nM m.g) i1 i2 b ?_;grind[aE,aw.refl]
theorem Gm(m:gS x f c gv gw cA cc M l H rv)(n:Int)(aL:n<c.vars.length):W (aK P aD 172 [.ptr M 0 0,D F n] H) λr H'=>r= C (decide (0<=n)&&dE c n)/\aw H H':=by
 refine afr 0 ?_;by_cases a:0<=n
 ·have e:n.toNat<c.vars.length:=aa;obtain⟨p,b,d⟩:=m.bS.Ea (j:=n) (t:=c.vars[n.toNat]) a al;have aX:a7 c n=c.vars[n.toNat]:=by grind[a7,jW]
  rw[dE,aX];refine ob @BP.eq_1 (nM m.g) a @decide_true b (d _ (aw.refl _)) ?_;refine cY (FA _) λK p=> ?_
  refine ajv ?_;grind[aE]
 ·refine D6 @BP.eq_1 a @decide_false ?_;grind[aE,aw.refl]
theorem aen(au:ep x)(m:gS x f c gv gw cA cc M l H rv)(n:Nat)(aL:n<=1000):W (aK P aD 173 [.ptr M 0 0,D F n] H) λr H'=>r= D F (eM x n:Nat)/\aw H H':=by
 refine afs 0 ?_;have b:=lU au;have a:IntKind.i64.wrap ((ga x.ax:Int)+(n:Int))=((eM x n:Nat):Int):=by grind[wrap_i64,eM]
 refine bT @HC.eq_1 (nM m.g) a ?_;grind[aE,aw.refl]
theorem acI(au:ep x)(m:gS x f c gv gw cA cc M l H rv)(n:Nat)(aL:n<=1000):W (aK P aD 174 [.ptr M 0 0,D F n] H) λr H'=>r= D F (eA x n:Nat)/\aw H H':=by
 refine aft 0 ?_;have d:=lU au;have e:=au.ax;have a:IntKind.i64.wrap ((ga x.ax:Int)+(x.ax.length:Int))=((ga x.ax+x.ax.length:Nat):Int):=by grind[wrap_i64]
 have b:IntKind.i64.wrap (((ga x.ax+x.ax.length:Nat):Int)+(n:Int))=((eA x n:Nat):Int):=by grind[wrap_i64,eA]
 refine dd @HD.eq_1 (nM m.g) (m.aA.bf cG) a b ?_;grind[aE,aw.refl]
