/-
  Texts of one proof, laid together: Oh Oi ShD SgF Pa Pb.
-/
import Derived.Test.YtmhhnnklfcbgfaaGreatMI
set_option linter.unusedVariables false
set_option linter.unusedSimpArgs false
set_option linter.defProp false
open Option renaming some→A,none→Z
open Bool renaming true→J,false→I
open Go.cw.af renaming int→D,bool→C
open Go.IntKind renaming i64→F
namespace Go.Proofs.YtmhhnnklfcbgfaaGreat
open Go.cw
open Nat (reduceAdd reduceLeDiff)
section
open Go.a_
set_option maxRecDepth 2000
section
variable {H:ae}{ok:Nat->Prop}{x:bC}{f:Nat}{c:bT}{i:In}{a b cc d v w wi:af}
def dn(h:aH aN H ok i.args wi)(l:Nat):fj l (.agg (cm i wi))=A (.ptr l 0 0,.row I 6 [cm i wi]):=yT h i.op i.a i.b i.c i.n l
def gP{zI:Nat}(h:H.get zI=A (.row I 6 [cm i wi])):aI P H 89 (.ptr zI 0 0)=A (.agg (cm i wi)):=Np h
theorem jY(n:Nat):((n:Int)==0)=(n==0):=al
theorem zY(hw:aH aN H ok i.args wi)(d:(i.op==13)=I):W (aK P aG 240 [.agg (cm i wi),C J,C I,C I,C J] H) λr H'=>r= C ((i.b==0)&&((i.c==0)&&(i.args.length==0)))/\au H H':=by
 refine oq 0 ?_;have g:=au.push H (.row I 6 [cm i wi]);have U:(H.push (.row I 6 [cm i wi])).get H.next=A (.row I 6 [[D F i.op,D F i.a,D F i.b,D F i.c,D F i.n,wi]]):=ae.a2 _ _
 have f:=f_ U;cases ai:(i.b==0)with
 |false=>
  refine cv @fz.eq_1 (dn hw) (o U) ai ?_;grind[aD]
 |true=>
  cases ax:(i.c==0)with
  |false=>
   refine c_ @fz.eq_1 (dn hw) (o U) ai ax ?_;grind[aD]
  |true=>
   cases e:(i.args.length==0)with
   |false=>
    refine bh @fz.eq_1 (dn hw) f (o U) (hw.bg b0) (ag @jY (ag d (ag ai (ag ax e)))) ?_;grind[aD]
   |true=>
    refine bh @fz.eq_1 (dn hw) f (o U) (hw.bg b0) (ag @jY (ag d (ag ai (ag ax e)))) ?_;grind[aD]
theorem zW(hw:aH aN H ok i.args wi)(d:(i.op==13)=I):W (aK P aG 240 [.agg (cm i wi),C J,C I,C I,C I] H) λr H'=>r= C ((i.b==0)&&((i.c==0)&&((i.n==0)&&(i.args.length==0))))/\au H H':=by
 refine oq 0 ?_;have g:=au.push H (.row I 6 [cm i wi]);have U:(H.push (.row I 6 [cm i wi])).get H.next=A (.row I 6 [[D F i.op,D F i.a,D F i.b,D F i.c,D F i.n,wi]]):=ae.a2 _ _
 have f:=f_ U;cases ai:(i.b==0)with
 |false=>
  refine cv @fz.eq_1 (dn hw) (o U) ai ?_;grind[aD]
 |true=>
  cases ax:(i.c==0)with
  |false=>
   refine c_ @fz.eq_1 (dn hw) (o U) ai ax ?_;grind[aD]
  |true=>
   cases aM:(i.n==0)with
   |false=>
    refine bh @fz.eq_1 (dn hw) (o U) ai ax aM ?_;grind[aD]
   |true=>
    cases e:(i.args.length==0)with
    |false=>
     refine bh @fz.eq_1 (dn hw) f (o U) (hw.bg b0) (ag @jY (ag d (ag ai (ag ax (ag aM e))))) ?_;grind[aD]
    |true=>
     refine bh @fz.eq_1 (dn hw) f (o U) (hw.bg b0) (ag @jY (ag d (ag ai (ag ax (ag aM e))))) ?_;grind[aD]
theorem OQ(hw:aH aN H ok i.args wi)(d:(i.op==13)=I):W (aK P aG 240 [.agg (cm i wi),C J,C J,C I,C I] H) λr H'=>r= C ((i.c==0)&&((i.n==0)&&(i.args.length==0)))/\au H H':=by
 refine oq 0 ?_;have g:=au.push H (.row I 6 [cm i wi]);have U:(H.push (.row I 6 [cm i wi])).get H.next=A (.row I 6 [[D F i.op,D F i.a,D F i.b,D F i.c,D F i.n,wi]]):=ae.a2 _ _
 have f:=f_ U;cases ax:(i.c==0)with
 |false=>
  refine cv @fz.eq_1 (dn hw) (o U) ax ?_;grind[aD]
 |true=>
  cases aM:(i.n==0)with
  |false=>
   refine c_ @fz.eq_1 (dn hw) (o U) ax aM ?_;grind[aD]
  |true=>
   cases e:(i.args.length==0)with
   |false=>
    refine bh @fz.eq_1 (dn hw) f (o U) (hw.bg b0) (ag @jY (ag d (ag ax (ag aM e)))) ?_;grind[aD]
   |true=>
    refine bh @fz.eq_1 (dn hw) f (o U) (hw.bg b0) (ag @jY (ag d (ag ax (ag aM e)))) ?_;grind[aD]
theorem OR(hw:aH aN H ok i.args wi)(d:(i.op==13)=I):W (aK P aG 240 [.agg (cm i wi),C J,C J,C I,C J] H) λr H'=>r= C ((i.c==0)&&(i.args.length==0))/\au H H':=by
 refine oq 0 ?_;have g:=au.push H (.row I 6 [cm i wi]);have U:(H.push (.row I 6 [cm i wi])).get H.next=A (.row I 6 [[D F i.op,D F i.a,D F i.b,D F i.c,D F i.n,wi]]):=ae.a2 _ _
 have f:=f_ U;cases ax:(i.c==0)with
 |false=>
  refine cv @fz.eq_1 (dn hw) (o U) ax ?_;grind[aD]
 |true=>
  cases e:(i.args.length==0)with
  |false=>
   refine bh @fz.eq_1 (dn hw) f (o U) (hw.bg b0) (ag @jY (ag d (ag ax e))) ?_;grind[aD]
  |true=>
   refine bh @fz.eq_1 (dn hw) f (o U) (hw.bg b0) (ag @jY (ag d (ag ax e))) ?_;grind[aD]
theorem zZ(hw:aH aN H ok i.args wi)(d:(i.op==13)=I):W (aK P aG 240 [.agg (cm i wi),C J,C J,C J,C I] H) λr H'=>r= C ((i.n==0)&&(i.args.length==0))/\au H H':=by
 refine oq 0 ?_;have g:=au.push H (.row I 6 [cm i wi]);have U:(H.push (.row I 6 [cm i wi])).get H.next=A (.row I 6 [[D F i.op,D F i.a,D F i.b,D F i.c,D F i.n,wi]]):=ae.a2 _ _
 have f:=f_ U;cases aM:(i.n==0)with
 |false=>
  refine cv @fz.eq_1 (dn hw) (o U) aM ?_;grind[aD]
 |true=>
  cases e:(i.args.length==0)with
  |false=>
   refine bh @fz.eq_1 (dn hw) f (o U) (hw.bg b0) (ag @jY (ag d (ag aM e))) ?_;grind[aD]
  |true=>
   refine bh @fz.eq_1 (dn hw) f (o U) (hw.bg b0) (ag @jY (ag d (ag aM e))) ?_;grind[aD]
theorem ace(hw:aH aN H ok i.args wi)(d:(i.op==13)=I):W (aK P aG 240 [.agg (cm i wi),C J,C J,C J,C J] H) λr H'=>r= C (i.args.length==0)/\au H H':=by
 refine oq 0 ?_;have g:=au.push H (.row I 6 [cm i wi]);have U:(H.push (.row I 6 [cm i wi])).get H.next=A (.row I 6 [[D F i.op,D F i.a,D F i.b,D F i.c,D F i.n,wi]]):=ae.a2 _ _
 have f:=f_ U;cases e:(i.args.length==0)with
 |false=>
  refine bh @fz.eq_1 (dn hw) f (hw.bg b0) @jY (ag d e) ?_;grind[aD]
 |true=>
  refine bh @fz.eq_1 (dn hw) f (hw.bg b0) @jY (ag d e) ?_;grind[aD]
theorem acb(hw:aH aN H ok i.args wi)(d:(i.op==13)=J):W (aK P aG 240 [.agg (cm i wi),C J,C I,C J,C I] H) λr H'=>r= C ((i.b==0)&&(i.n==0))/\au H H':=by
 refine oq 0 ?_;have f:=au.push H (.row I 6 [cm i wi]);have U:(H.push (.row I 6 [cm i wi])).get H.next=A (.row I 6 [[D F i.op,D F i.a,D F i.b,D F i.c,D F i.n,wi]]):=ae.a2 _ _
 have e:=f_ U;cases ai:(i.b==0)with
 |false=>
  refine cv @fz.eq_1 (dn hw) (o U) ai ?_;grind[aD]
 |true=>
  cases aM:(i.n==0)with
  |false=>
   refine c_ @fz.eq_1 (dn hw) (o U) ai aM ?_;grind[aD]
  |true=>
   refine bh @fz.eq_1 (dn hw) e (o U) d (ag ai aM) ?_;grind[aD]
theorem aca(hw:aH aN H ok i.args wi)(d:(i.op==13)=I):W (aK P aG 240 [.agg (cm i wi),C I,C I,C I,C J] H) λr H'=>r= C ((i.a==0)&&((i.b==0)&&((i.c==0)&&(i.args.length==0))))/\au H H':=by
 refine oq 0 ?_;have g:=au.push H (.row I 6 [cm i wi]);have U:(H.push (.row I 6 [cm i wi])).get H.next=A (.row I 6 [[D F i.op,D F i.a,D F i.b,D F i.c,D F i.n,wi]]):=ae.a2 _ _
 have f:=f_ U;cases ah:(i.a==0)with
 |false=>
  refine cv @fz.eq_1 (dn hw) (o U) ah ?_;grind[aD]
 |true=>
  cases ai:(i.b==0)with
  |false=>
   refine c_ @fz.eq_1 (dn hw) (o U) ah ai ?_;grind[aD]
  |true=>
   cases ax:(i.c==0)with
   |false=>
    refine bh @fz.eq_1 (dn hw) (o U) ah ai ax ?_;grind[aD]
   |true=>
    cases e:(i.args.length==0)with
    |false=>
     refine bh @fz.eq_1 (dn hw) f (o U) (hw.bg b0) (ag @jY (ag d (ag ah (ag ai (ag ax e))))) ?_;grind[aD]
    |true=>
     refine bh @fz.eq_1 (dn hw) f (o U) (hw.bg b0) (ag @jY (ag d (ag ah (ag ai (ag ax e))))) ?_;grind[aD]
theorem acd(hw:aH aN H ok i.args wi)(d:(i.op==13)=I):W (aK P aG 240 [.agg (cm i wi),C J,C I,C J,C J] H) λr H'=>r= C ((i.b==0)&&(i.args.length==0))/\au H H':=by
 refine oq 0 ?_;have g:=au.push H (.row I 6 [cm i wi]);have U:(H.push (.row I 6 [cm i wi])).get H.next=A (.row I 6 [[D F i.op,D F i.a,D F i.b,D F i.c,D F i.n,wi]]):=ae.a2 _ _
 have f:=f_ U;cases ai:(i.b==0)with
 |false=>
  refine cv @fz.eq_1 (dn hw) (o U) ai ?_;grind[aD]
 |true=>
  cases e:(i.args.length==0)with
  |false=>
   refine bh @fz.eq_1 (dn hw) f (o U) (hw.bg b0) (ag @jY (ag d (ag ai e))) ?_;grind[aD]
  |true=>
   refine bh @fz.eq_1 (dn hw) f (o U) (hw.bg b0) (ag @jY (ag d (ag ai e))) ?_;grind[aD]
theorem Uz(hw:aH aN H ok i.args wi):W (aK P aG 217 [.agg (cm i wi)] H) λr H'=>r= C (decide (1<=i.op/\i.op<=20)&&named i)/\au H H':=by
 refine aeA 0 ?_;have d:=au.push H (.row I 6 [cm i wi]);have U:(H.push (.row I 6 [cm i wi])).get H.next=A (.row I 6 [[D F i.op,D F i.a,D F i.b,D F i.c,D F i.n,wi]]):=ae.a2 _ _
 have e:=f_ U;by_cases ah:i.op=1
 ·have t:∀j:Int,(i.op==j)=(1==j):=λj=>by rw[ah]
  simp-implicitDefEqProofs(disch:=try exact aW)only[hE,hP,hQ,hR,hS,hT,fT,reduceAdd,reduceLeDiff,reduceIte,bB,dn hw,e,gP U,t,Int.reduceBEq];refine bw (zY (hw.aB d) al) λK p=> ?_
  exact aD.2 ⟨by rw[named,ah];simp,d.trans p⟩
 have E:(i.op==1)=false:=beq_eq_false_iff_ne.2 ah;by_cases ai:i.op=2
 ·have t:∀j:Int,(i.op==j)=(2==j):=λj=>by rw[ai]
  simp-implicitDefEqProofs(disch:=try exact aW)only[hE,hP,hQ,hR,hS,hT,fT,reduceAdd,reduceLeDiff,reduceIte,bB,dn hw,e,gP U,t,Int.reduceBEq];refine bw (zW (hw.aB d) al) λK p=> ?_
  exact aD.2 ⟨by rw[named,ai];simp,d.trans p⟩
 have Y:(i.op==2)=false:=beq_eq_false_iff_ne.2 ai;by_cases ax:i.op=3
 ·have t:∀j:Int,(i.op==j)=(3==j):=λj=>by rw[ax]
  simp-implicitDefEqProofs(disch:=try exact aW)only[hE,hP,hQ,hR,hS,hT,fT,reduceAdd,reduceLeDiff,reduceIte,bB,dn hw,e,gP U,t,Int.reduceBEq];refine bw (OQ (hw.aB d) al) λK p=> ?_
  exact aD.2 ⟨by rw[named,ax];simp,d.trans p⟩
 have ab:(i.op==3)=false:=beq_eq_false_iff_ne.2 ax;by_cases aM:i.op=4
 ·have t:∀j:Int,(i.op==j)=(4==j):=λj=>by rw[aM]
  simp-implicitDefEqProofs(disch:=try exact aW)only[hE,hP,hQ,hR,hS,hT,fT,reduceAdd,reduceLeDiff,reduceIte,bB,dn hw,e,gP U,t,Int.reduceBEq];refine bw (ace (hw.aB d) al) λK p=> ?_
  exact aD.2 ⟨by rw[named,aM];simp,d.trans p⟩
 have af:(i.op==4)=false:=beq_eq_false_iff_ne.2 aM;by_cases f:i.op=5
 ·have t:∀j:Int,(i.op==j)=(5==j):=λj=>by rw[f]
  simp-implicitDefEqProofs(disch:=try exact aW)only[hE,hP,hQ,hR,hS,hT,fT,reduceAdd,reduceLeDiff,reduceIte,bB,dn hw,e,gP U,t,Int.reduceBEq];refine bw (OR (hw.aB d) al) λK p=> ?_
  exact aD.2 ⟨by rw[named,f];simp,d.trans p⟩
 have aj:(i.op==5)=false:=beq_eq_false_iff_ne.2 f;by_cases g:i.op=6
 ·have t:∀j:Int,(i.op==j)=(6==j):=λj=>by rw[g]
  simp-implicitDefEqProofs(disch:=try exact aW)only[hE,hP,hQ,hR,hS,hT,fT,reduceAdd,reduceLeDiff,reduceIte,bB,dn hw,e,gP U,t,Int.reduceBEq];refine bw (zZ (hw.aB d) al) λK p=> ?_
  exact aD.2 ⟨by rw[named,g];simp,d.trans p⟩
 have ak:(i.op==6)=false:=beq_eq_false_iff_ne.2 g;by_cases h:i.op=7
 ·have t:∀j:Int,(i.op==j)=(7==j):=λj=>by rw[h]
  simp-implicitDefEqProofs(disch:=try exact aW)only[hE,hP,hQ,hR,hS,hT,fT,reduceAdd,reduceLeDiff,reduceIte,bB,dn hw,e,gP U,t,Int.reduceBEq];refine bw (zZ (hw.aB d) al) λK p=> ?_
  exact aD.2 ⟨by rw[named,h];simp,d.trans p⟩
 have am:(i.op==7)=false:=beq_eq_false_iff_ne.2 h;by_cases k:i.op=8
 ·have t:∀j:Int,(i.op==j)=(8==j):=λj=>by rw[k]
  simp-implicitDefEqProofs(disch:=try exact aW)only[hE,hP,hQ,hR,hS,hT,fT,reduceAdd,reduceLeDiff,reduceIte,bB,dn hw,e,gP U,t,Int.reduceBEq];refine bw (zZ (hw.aB d) al) λK p=> ?_
  exact aD.2 ⟨by rw[named,k];simp,d.trans p⟩
 have an:(i.op==8)=false:=beq_eq_false_iff_ne.2 k;by_cases l:i.op=9
 ·have t:∀j:Int,(i.op==j)=(9==j):=λj=>by rw[l]
  simp-implicitDefEqProofs(disch:=try exact aW)only[hE,hP,hQ,hR,hS,hT,fT,reduceAdd,reduceLeDiff,reduceIte,bB,dn hw,e,gP U,t,Int.reduceBEq];refine bw (zZ (hw.aB d) al) λK p=> ?_
  exact aD.2 ⟨by rw[named,l];simp,d.trans p⟩
 have ap:(i.op==9)=false:=beq_eq_false_iff_ne.2 l;by_cases m:i.op=10
 ·have t:∀j:Int,(i.op==j)=(10==j):=λj=>al
  simp-implicitDefEqProofs(disch:=try exact aW)only[hE,hP,hQ,hR,hS,hT,fT,reduceAdd,reduceLeDiff,reduceIte,bB,dn hw,e,gP U,t,Int.reduceBEq];refine bw (OQ (hw.aB d) al) λK p=> ?_
  exact aD.2 ⟨by grind[named],d.trans p⟩
 have G:(i.op==10)=false:=beq_eq_false_iff_ne.2 m;by_cases o:i.op=11
 ·have t:∀j:Int,(i.op==j)=(11==j):=λj=>al
  simp-implicitDefEqProofs(disch:=try exact aW)only[hE,hP,hQ,hR,hS,hT,fT,reduceAdd,reduceLeDiff,reduceIte,bB,dn hw,e,gP U,t,Int.reduceBEq];refine bw (zY (hw.aB d) al) λK p=> ?_
  exact aD.2 ⟨by grind[named],d.trans p⟩
 have L:(i.op==11)=false:=beq_eq_false_iff_ne.2 o;by_cases q:i.op=12
 ·have t:∀j:Int,(i.op==j)=(12==j):=λj=>al
  simp-implicitDefEqProofs(disch:=try exact aW)only[hE,hP,hQ,hR,hS,hT,fT,reduceAdd,reduceLeDiff,reduceIte,bB,dn hw,e,gP U,t,Int.reduceBEq];refine bw (OR (hw.aB d) al) λK p=> ?_
  exact aD.2 ⟨by grind[named],d.trans p⟩
 have M:(i.op==12)=false:=beq_eq_false_iff_ne.2 q;by_cases s:i.op=13
 ·have t:∀j:Int,(i.op==j)=(13==j):=λj=>al
  simp-implicitDefEqProofs(disch:=try exact aW)only[hE,hP,hQ,hR,hS,hT,fT,reduceAdd,reduceLeDiff,reduceIte,bB,dn hw,e,gP U,t,Int.reduceBEq];refine bw (acb (hw.aB d) al) λK p=> ?_
  exact aD.2 ⟨by grind[named],d.trans p⟩
 have N:(i.op==13)=false:=beq_eq_false_iff_ne.2 s;by_cases u:i.op=14
 ·have t:∀j:Int,(i.op==j)=(14==j):=λj=>al
  simp-implicitDefEqProofs(disch:=try exact aW)only[hE,hP,hQ,hR,hS,hT,fT,reduceAdd,reduceLeDiff,reduceIte,bB,dn hw,e,gP U,t,Int.reduceBEq];refine bw (zW (hw.aB d) ad) λK p=> ?_
  exact aD.2 ⟨by grind[named],d.trans p⟩
 have O:(i.op==14)=false:=beq_eq_false_iff_ne.2 u;by_cases v:i.op=15
 ·have t:∀j:Int,(i.op==j)=(15==j):=λj=>al
  simp-implicitDefEqProofs(disch:=try exact aW)only[hE,hP,hQ,hR,hS,hT,fT,reduceAdd,reduceLeDiff,reduceIte,bB,dn hw,e,gP U,t,Int.reduceBEq];refine bw (zW (hw.aB d) ad) λK p=> ?_
  exact aD.2 ⟨by grind[named],d.trans p⟩
 have Q:(i.op==15)=false:=beq_eq_false_iff_ne.2 v;by_cases w:i.op=16
 ·have t:∀j:Int,(i.op==j)=(16==j):=λj=>al
  simp-implicitDefEqProofs(disch:=try exact aW)only[hE,hP,hQ,hR,hS,hT,fT,reduceAdd,reduceLeDiff,reduceIte,bB,dn hw,e,gP U,t,Int.reduceBEq];refine bw (aca (hw.aB d) ad) λK p=> ?_
  exact aD.2 ⟨by grind[named],d.trans p⟩
 have R:(i.op==16)=false:=beq_eq_false_iff_ne.2 w;by_cases x:i.op=17
 ·have t:∀j:Int,(i.op==j)=(17==j):=λj=>al
  simp-implicitDefEqProofs(disch:=try exact aW)only[hE,hP,hQ,hR,hS,hT,fT,reduceAdd,reduceLeDiff,reduceIte,bB,dn hw,e,gP U,t,Int.reduceBEq];refine bw (acd (hw.aB d) ad) λK p=> ?_
  exact aD.2 ⟨by grind[named],d.trans p⟩
 have S:(i.op==17)=false:=beq_eq_false_iff_ne.2 x;by_cases y:i.op=18
 ·have t:∀j:Int,(i.op==j)=(18==j):=λj=>al
  simp-implicitDefEqProofs(disch:=try exact aW)only[hE,hP,hQ,hR,hS,hT,fT,reduceAdd,reduceLeDiff,reduceIte,bB,dn hw,e,gP U,t,Int.reduceBEq];refine bw (zW (hw.aB d) ad) λK p=> ?_
  exact aD.2 ⟨by grind[named],d.trans p⟩
 have T:(i.op==18)=false:=beq_eq_false_iff_ne.2 y;by_cases z:i.op=19
 ·have t:∀j:Int,(i.op==j)=(19==j):=λj=>al
  simp-implicitDefEqProofs(disch:=try exact aW)only[hE,hP,hQ,hR,hS,hT,fT,reduceAdd,reduceLeDiff,reduceIte,bB,dn hw,e,gP U,t,Int.reduceBEq];refine bw (zY (hw.aB d) ad) λK p=> ?_
  exact aD.2 ⟨by grind[named],d.trans p⟩
 have V:(i.op==19)=false:=beq_eq_false_iff_ne.2 z;by_cases B:i.op=20
 ·have t:∀j:Int,(i.op==j)=(20==j):=λj=>al
  simp-implicitDefEqProofs(disch:=try exact aW)only[hE,hP,hQ,hR,hS,hT,fT,reduceAdd,reduceLeDiff,reduceIte,bB,dn hw,e,gP U,t,Int.reduceBEq];refine bw (zY (hw.aB d) ad) λK p=> ?_
  exact aD.2 ⟨by grind[named],d.trans p⟩
 have aa:(i.op==20)=false:=beq_eq_false_iff_ne.2 B;simp-implicitDefEqProofs(disch:=try exact aW)only[hE,hP,hQ,hR,hS,hT,fT,reduceAdd,reduceLeDiff,reduceIte,bB,dn hw,e,gP U,E,Y,ab,af,aj,ak,am,an,ap,G,L,M,N,O,Q,R,S,T,V,aa];grind[aD,decide_eq_false]
def UI(x:bC)(f:Nat)(c:bT)(i:In)(a b cc d v w wi:af):ei P 280 [(0,.agg [a,b,cc,d,D F x.main]),(1,D F f),(2,.agg (cG c v w)),(3,.agg (cm i wi))]=A (.agg (cC x f c i a b cc d v w wi)):=JU rfl
def c9{zX:Nat}{m:Int}(g:H.get zX=A (.row I 5 [[a,b,cc,d,D F m]])):aI P H 22 (.ptr zX 0 0)=A a/\aI P H 23 (.ptr zX 0 1)=A b/\aI P H 24 (.ptr zX 0 2)=A cc/\aI P H 25 (.ptr zX 0 3)=A d/\aI P H 3 (.ptr zX 0 4)=A (D F m):=by
 exact kz g
theorem ZT{V q:af}(aE:cA H ok x V)(aP:yu H ok i q)(f:Nat){c:bT}(aC:x.ay[f]? =A c)(B:∀g∈x.ay,g.vars.length<=1000000000)(hm:c.vars.all (eD x.b_.length)=J):W (aK P aG 168 [V,D F f,q] H) λr H'=>r= C (dY x f c i)/\au H H':=by
 obtain⟨_,rfl,a,b,cc,d,rfl,ah,ai,ax,aM⟩:=aE;obtain⟨_,rfl,wi,rfl,i1⟩:=aP;have S:=(List.getElem?_eq_some_iff.1 aC).1;have z:c.vars.length<=1000000000:=al;have E:∀v,(a6 c v).d<=1000:=λv=>by
  unfold a6;cases h:eK c.vars v with
  |none=>simp[bt]
  |some u=>
   have:=List.all_eq_true.1 hm u (List.mem_of_getElem? (JP.1 h).2);grind[eD]
 refine ad9 0 ?_;have e:au H ((H.push (.row I 5 [[a,b,cc,d,D F x.main]])).push (.row I 6 [cm i wi])):=(au.push _ _).trans (au.push _ _);have aO:((H.push (.row I 5 [[a,b,cc,d,D F x.main]])).push (.row I 6 [cm i wi])).get H.next=A (.row I 5 [[a,b,cc,d,D F x.main]]):=(au.push _ _).get (ae.a2 _ _)
 have U:((H.push (.row I 5 [[a,b,cc,d,D F x.main]])).push (.row I 6 [cm i wi])).get (H.next+1)=A (.row I 6 [cm i wi]):=ae.a2 _ _;have s:∀l,fj l (.agg [D F i.op,D F i.a,D F i.b,D F i.c,D F i.n,wi])=A (.ptr l 0 0,.row I 6 [cm i wi]):=λl=>dn i1 l
 refine b3 @GF.eq_1 (dV ah ai ax aM) s ?_;generalize ((H.push (.row I 5 [[a,b,cc,d,D F x.main]])).push (.row I 6 [cm i wi]))=H0 at*;have jm:=ae.bq aO;have T:=ae.bq U;generalize H.next+1=zI at*
 generalize H.next=zX at*
 have t:=ah.aB e;have w:=ai.aB e;have k:=ax.aB e;have y:=aM.aB e;have o:=i1.aB e;obtain⟨pp,gv,gw,O,Q,bV,b9⟩:=k.sr (j:=(f:Int)) (g:=c) ad al;have Y:bF (A (.agg [a,b,cc,d,D F x.main])) (.agg [a,b,cc,d,D F x.main])=true:=by simp[bF,af.beq,e6.beq,ah.rd,ai.rd,ax.rd,aM.rd]
 refine b3 (c9 aO) (gP U) (k.bg cD) ?_;refine cT (Uz o) λK p=> ?_
 rw[ah8];cases m:(decide (1<=i.op/\i.op<=20)&&named i)with
 |false=>
  refine bN ?_;refine aD.2 ⟨?_,e.trans p⟩;grind[decide_eq_false_iff_not,eC]
 |true=>
  simp only[Bool.and_eq_true,decide_eq_true_eq]at m;obtain⟨⟨G,L⟩,aL⟩:=m;refine bh (c9 (p.get aO)) (cn (p.get aO)) (gP (p.get U)) O (Q _ p) @UI ?_;refine cT (ajD (ok:=ok) ⟨t.aB p,w.aB p,k.aB p,y.aB p,bV.aB p,b9.aB p,o.aB p⟩ z B E G L) λR N=> ?_
  have M:=p.trans N;refine bN ?_;exact aD.2 ⟨al,e.trans M⟩
end
end
section
open Go.a_
set_option maxRecDepth 2000
section
variable {H:ae}{ok:Nat->Prop}{x:bC}{f:Nat}{c:bT}{i:In}{a b cc d v w wi:af}
def aH.uK{l:List In}{v:af}(h:aH gq H ok l v){j:Int}{i:In}(a:0<=j)(b:l[j.toNat]? =A i):∃L n wi,ct P 47 v (D F j)=A (.ptr L n 0)/\(∀H',au H H'->aI P H' 89 (.ptr L n 0)=A (.agg (cm i wi))/\aI P H' 3 (.ptr L n 0)=A (D F i.op))/\aH aN H ok i.args wi:=by
 obtain⟨L,n,ro,els,cs,ah,_,ai,ax,wi,rfl,aM⟩:=h.at_ (K:=gq) eP a b;refine⟨L,n,wi,ah,λH' p=>⟨?_,?_⟩,aM⟩
 ·exact hz (n:=6) (c:=0) aF aF (p.get ai) ax (by exact du 6)
 ·have g:H'.get L=A (.row ro 6 els):=p.get ai;exact sI g ax
theorem aav{l:List In}(h:1<=l.length):∃i,l[l.length-1]? =A i/\k5 l=i.op:=by
 have ah:l.length-1<l.length:=ad;refine⟨l[l.length-1],al,?_⟩;grind[k5]
theorem VV{zX zC:Nat}(b4:H.get zC=A (.row I 7 [cG c v w]))(hw:aH gq H ok c.ins w)(ah:1<=c.ins.length)(aw:c.ins.length<=1000000000){N:Nat}:
  W (s4 (aK P aG) N (.ptr zC 0 0) H) λr H'=>r= C (kx (k5 c.ins))/\au H H':=by
 obtain⟨i,h,g⟩:=aav ah;have b:IntKind.i64.wrap ((c.ins.length:Int)-1)=((c.ins.length-1:Nat):Int):=by grind[wrap_i64]
 obtain⟨L,n,wi,d,e,k⟩:=hw.uK (j:=((c.ins.length-1:Nat):Int)) (i:=i) ad al;have l2:=h8 b4;rw[g,kx];cases a:(i.op==16)with
 |true=>
  refine bh @s4.eq_1 l2 (hw.bg eP) b d (ag ((e _ (au.refl _)).2) a) ?_;grind[aD,au.refl]
 |false=>
  cases f:(i.op==17)with
  |true=>
   refine bh @s4.eq_1 l2 (hw.bg eP) b d (ag ((e _ (au.refl _)).2) (ag a f)) ?_;grind[aD,au.refl]
  |false=>
   refine bh @s4.eq_1 l2 (hw.bg eP) b d (ag ((e _ (au.refl _)).2) (ag a f)) ?_;grind[aD,au.refl]
theorem KI{zX zC:Nat}(aC:x.ay[f]? =A c)(e:∀g∈x.ay,g.vars.length<=1000000000)(hm:c.vars.all (eD x.b_.length)=J)(ah:1<=c.ins.length)(aw:c.ins.length<=1000000000){N:Nat}:∀(j k m:Nat) (H:ae),k+j=c.ins.length->j<m->H.get zX=A (.row I 5 [[a,b,cc,d,D F x.main]])->H.get zC=A (.row I 7 [cG c v w])->cA H ok x (.agg [a,b,cc,d,D F x.main])->aH gq H ok c.ins w->
  W (s5 (aK P aG) N m (D F f) (.ptr zX 0 0) (.ptr zC 0 0) w (D F c.ins.length) (D F k) H) λr H'=>r= C ((c.ins.drop k).all (dY x f c)&&kx (k5 c.ins))/\au H H'
 |_,_,0,_,_,hm,_,_,_,_=>ad
 |0,k,m+1,H,l,_,aO,b4,aE,hw=>by
  have z:¬(k:Int)<(c.ins.length:Int):=ad;refine bG @s5.eq_2 @Ax.eq_1 ?_;rw[List.drop_of_length_le ad,List.all_nil,Bool.true_and];exact VV (zX:=zX) b4 hw ah aw
 |j+1,k,m+1,H,l,B,aO,b4,aE,hw=>by
  have o:k<c.ins.length:=ad;obtain⟨L,n,wi,t,u,h⟩:=hw.uK (j:=(k:Int)) (i:=c.ins[k]) ad al;have on:=KI (zX:=zX) (zC:=zC) aC e hm ah aw (N:=N) j (k+1) m;rw[List.drop_eq_getElem_cons o,List.all_cons];generalize c.ins[k]=i at*;have st:=tO (i:=i) (w:=wi) (ae.a2 H (.row I 6 [[D F 0,D F 0,D F 0,D F 0,D F 0,.ao]])) h.one;have pp:=au.push H (.row I 6 [cm i wi]);have U:=ae.a2 H (.row I 6 [cm i wi]);refine bh @s5.eq_2 @Ax.eq_1 t (u _ (au.refl _)) st (ag @ae.gU (ag (cn (pp.get aO)) (gP U))) ?_;refine bw (ZT (aE.aB pp) ⟨_,rfl,wi,rfl,h.aB pp⟩ f aC e hm) λK p=> ?_
  have q:=pp.trans p;cases E:dY x f c i with
  |false=>
   refine bN ?_;grind[aD]
  |true=>
   refine bN ?_;refine(on K ad ad (q.get aO) (q.get b4) (aE.aB q) (hw.aB q)).mono ?_;rintro r y ⟨rfl,s⟩;exact⟨aX,q.trans s⟩
theorem VX{V:af}(aE:cA H ok x V)(f:Nat){c:bT}(aC:x.ay[f]? =A c)(aa:∀g∈x.ay,g.vars.length<=1000000000)(hlen:∀c∈x.ay,c.ins.length<=1000000000):W (aK P aG 126 [V,D F f] H) λr H'=>r= C (codeOk x f c)/\au H H':=by
 obtain⟨_,rfl,a,b,cc,d,rfl,ah,ai,ax,aM⟩:=aE;have an:=(List.getElem?_eq_some_iff.1 aC).1;have Y:c.vars.length<=1000000000:=al;have aw:c.ins.length<=1000000000:=al;refine adM (c.ins.length+1) ?_;have E:=au.push H (.row I 5 [[a,b,cc,d,D F x.main]]);have y:=ae.a2 H (.row I 5 [[a,b,cc,d,D F x.main]]);obtain⟨pp,gv,gw,Q,R,bV,b9⟩:=(ax.aB E).sr (j:=(f:Int)) (g:=c) ad al;have st:=p9 (c:=c) (v:=gv) (w:=gw) (ae.a2 (H.push (.row I 5 [[a,b,cc,d,D F x.main]])) (.row I 7 [[D F 0,.ao,C I,D F 0,D F 0,D F 0,.ao]])) bV.one b9.one;simp only[kD]at st
 have n:au H ((H.push (.row I 5 [[a,b,cc,d,D F x.main]])).push (.row I 7 [cG c gv gw])):=E.trans (au.push _ _);have aO:((H.push (.row I 5 [[a,b,cc,d,D F x.main]])).push (.row I 7 [cG c gv gw])).get H.next=A (.row I 5 [[a,b,cc,d,D F x.main]]):=(au.push _ _).get y
 have b4:((H.push (.row I 5 [[a,b,cc,d,D F x.main]])).push (.row I 7 [cG c gv gw])).get (H.next+1)=A (.row I 7 [cG c gv gw]):=ae.a2 _ _;have m:=bV.aB (au.push _ (.row I 7 [cG c gv gw]));have B:=b9.aB (au.push _ (.row I 7 [cG c gv gw]));refine bh @Gi.eq_1 (dV ah ai ax aM) (c9 y) Q (R _ (au.refl _)) (ag st @ae.gU) ?_;clear st Q R bV b9;generalize ((H.push (.row I 5 [[a,b,cc,d,D F x.main]])).push (.row I 7 [cG c gv gw]))=H0 at*;have jm:=ae.bq aO;have iB:=ae.bq b4;generalize H.next+1=zC at*
 clear E y;generalize H.next=zX at*
 have L:cA H0 ok x (.agg [a,b,cc,d,D F x.main]):=⟨_,rfl,a,b,cc,d,rfl,ah.aB n,ai.aB n,ax.aB n,aM.aB n⟩;have l2:=h8 b4;rw[codeOk];have bad:¬(0<=c.params/\c.params<=6/\c.params<=c.vars.length/\c.vars.length<=4000/\1<=c.ins.length)->∀z:Bool,W (A (af.bool I,H0)) λr H'=>r= C (decide (0<=c.params/\c.params<=6/\c.params<=c.vars.length/\c.vars.length<=4000/\1<=c.ins.length)&&z)/\au H H':=(by grind[aD,decide_eq_false])
 by_cases br:c.params<0
 ·simp-implicitDefEqProofs(disch:=try exact aW)only[reduceAdd,reduceLeDiff,reduceIte,bB,l2,br,decide_true];exact bad ad _
 by_cases a1:6<c.params
 ·simp-implicitDefEqProofs(disch:=try exact aW)only[reduceAdd,reduceLeDiff,reduceIte,bB,l2,br,a1,decide_true,decide_false];exact bad ad _
 by_cases bd:(c.vars.length:Int)<c.params
 ·simp-implicitDefEqProofs(disch:=try exact aW)only[reduceAdd,reduceLeDiff,reduceIte,bB,l2,br,a1,bd,m.len cS,decide_true,decide_false];exact bad ad _
 by_cases bn:(4000:Int)<(c.vars.length:Int)
 ·simp-implicitDefEqProofs(disch:=try exact aW)only[reduceAdd,reduceLeDiff,reduceIte,bB,l2,br,a1,bd,bn,m.len cS,decide_true,decide_false];exact bad ad _
 cases bI:((c.ins.length:Int)==0)with
 |true=>
  have T:(c.ins.length:Int)=0:=al;simp-implicitDefEqProofs(disch:=try exact aW)only[reduceAdd,reduceLeDiff,reduceIte,bB,l2,br,a1,bd,bn,bI,m.len cS,B.len eP,decide_true,decide_false];exact bad ad _
 |false=>
 have T:¬(c.ins.length:Int)=0:=al;have U:1<=c.ins.length:=ad;rw[decide_eq_true ad,Bool.true_and];simp-implicitDefEqProofs(disch:=try exact aW)only[reduceAdd,reduceLeDiff,reduceIte,bB,l2,br,a1,bd,bn,bI,m.len cS,B.len eP,decide_true,decide_false,cn aO];refine cT (MI L m Y) λK o=> ?_
 have G:=n.trans o;cases hm:c.vars.all (eD x.b_.length)with
 |false=>
  refine bN ?_;grind[aD]
 |true=>
 have l:=o.get aO;have e:=o.get b4;have q:=h8 e;have M:=L.aB o;have s:bF (A (.agg [a,b,cc,d,D F x.main])) (.agg [a,b,cc,d,D F x.main])=true:=by simp[bF,af.beq,e6.beq,ah.rd,ai.rd,ax.rd,aM.rd]
 have go:∀k,au K k->W (aU (bO P 49 (.ptr zC 0 0) 4) λaj=>aU (aI P k 47 aj) λS=>eM P .len [47] [S] k λak=>s5 (aK P aG) (c.ins.length+1) (c.ins.length+1) (D F f) (.ptr zX 0 0) (.ptr zC 0 0) S ak (D F 0) k) λr H'=>r= C (c.ins.all (dY x f c)&&kx (k5 c.ins))/\au H H':=by
  intro k h;have N:=B.aB (o.trans h);refine bG (h8 (h.get e)) (N.bg eP) ?_;refine(KI (v:=gv) aC aa hm U aw c.ins.length 0 (c.ins.length+1) k ad ad (h.get l) (h.get e) (M.aB h) N).mono ?_;rintro r am ⟨rfl,ab⟩;exact⟨al,G.trans (h.trans ab)⟩
 refine bP q ?_;cases i:c.has with
 |true=>
  rw[i]at q;refine bG (cn l) (qS e) ?_;refine cT (zk M c.res) λt h=> ?_
  have O:=h8 (h.get e);rw[i]at O;cases ar:eD x.b_.length c.res with
  |false=>
   refine bN ?_;refine ds (λH' p=>(ag (cn (p.get l)) (ag (qS (p.get e)) (ag (h8 (p.get e)) (ag i (ag s (ag eR ve))))))) (aD.2 ⟨rfl,G.trans h⟩)
  |true=>
   refine ail @Bool.not_true O ?_;refine ds (λH' p=>(ag (cn (p.get l)) (ag (qS (p.get e)) (ag (h8 (p.get e)) (ag i (ag s (ag eR ve))))))) ?_;have g:=go t h;rw[Bool.true_and,Bool.true_and];simp-implicitDefEqProofs(disch:=try exact aW)only[reduceAdd,reduceLeDiff,reduceIte,bB]at g ⊢;exact g
 |false=>
  rw[i]at q;refine bP q ?_;refine cT FA λt h=> ?_
  refine bG (qS (h.get e)) @iH ?_;by_cases ar:c.res=bt
  ·have u:decide (c.res≠bt)=false:=al;rw[u,decide_eq_true ar];refine aik ?_;refine ds (λH' p=>(ag (cn (p.get l)) (ag (qS (p.get e)) (ag (h8 (p.get e)) (ag i (ag s (ag eR ve))))))) ?_;have g:=go t h;rw[Bool.true_and,Bool.true_and];simp-implicitDefEqProofs(disch:=try exact aW)only[reduceAdd,reduceLeDiff,reduceIte,bB]at g ⊢;exact g
  ·have u:decide (c.res≠bt)=true:=al;rw[u,decide_eq_false ar];refine bN ?_;refine ds (λH' p=>(ag (cn (p.get l)) (ag (qS (p.get e)) (ag (h8 (p.get e)) (ag i (ag s (ag eR ve))))))) (aD.2 ⟨rfl,G.trans h⟩)
def ss(x:bC):List bT->Nat->Nat->Bool
 |[],_,_=>J
 |c::cs,s,f=>decide (s+c.ins.length<=2500)&&(codeOk x f c&&ss x cs (s+c.ins.length) (f+1))
theorem KJ(x:bC):∀(cs:List bT) (s f:Nat),s<=2500->ss x cs s f=(decide (s+hl cs<=2500)&&kr x cs f)
 |[],s,f,h=>by simp[ss,hl,kr,h]
 |c::cs,s,f,h=>by
  rw[ss,hl,kr];by_cases ah:s+c.ins.length<=2500
  ·have e:decide (s+(c.ins.length+hl cs)<=2500)=decide (s+c.ins.length+hl cs<=2500):=al;rw[KJ x cs _ _ ah,decide_eq_true ah,Bool.true_and,e];grind
  grind
theorem KM{zX:Nat}(h:∀g∈x.ay,g.vars.length<=1000000000)(hlen:∀c∈x.ay,c.ins.length<=1000000000)(o:x.ay.length<=1000000000){N:Nat}:∀(j k m q:Nat) (H:ae),k+j=x.ay.length->j<m->q<=2500->H.get zX=A (.row I 5 [[a,b,cc,d,D F x.main]])->cA H ok x (.agg [a,b,cc,d,D F x.main])->aH gf H ok x.ay cc->
  W (tF (aK P aG) N m (.ptr zX 0 0) (D F q) cc (D F x.ay.length) (D F k) H) λr H'=>r= C (ss x (x.ay.drop k) q k)/\au H H'
 |_,_,0,_,_,_,hm,_,_,_,_=>ad
 |0,k,m+1,q,H,s,_,_,aO,aE,ax=>by
  have z:¬(k:Int)<(x.ay.length:Int):=ad;refine b3 @tF.eq_2 @xm.eq_1 @HW.eq_1 ?_;rw[List.drop_of_length_le ad];exact aD.2 ⟨rfl,au.refl _⟩
 |j+1,k,m+1,q,H,s,B,aJ,aO,aE,ax=>by
  have i:k<x.ay.length:=ad;obtain⟨pp,gv,gw,l,n,bV,b9⟩:=ax.sr (j:=(k:Int)) (g:=x.ay[k]) ad al;have aw:=hlen _ (List.getElem_mem i);have aC:x.ay[k]? =A x.ay[k]:=al;have on:=KM (zX:=zX) h hlen o (N:=N) j (k+1) m;rw[List.drop_eq_getElem_cons i,ss];generalize x.ay[k]=c at*;have st:=p9 (c:=c) (v:=gv) (w:=gw) (ae.a2 H (.row I 7 [[D F 0,.ao,C I,D F 0,D F 0,D F 0,.ao]])) bV.one b9.one;have f:=au.push H (.row I 7 [cG c gv gw]);have b4:=ae.a2 H (.row I 7 [cG c gv gw]);have l2:=h8 b4;have u:IntKind.i64.wrap ((q:Int)+(c.ins.length:Int))=((q+c.ins.length:Nat):Int):=by grind[wrap_i64]
  by_cases ah:(2500:Int)<((q+c.ins.length:Nat):Int)
  ·refine bh @tF.eq_2 @xm.eq_1 l (n _ (au.refl _)) st (ag @ae.gU (ag l2 (ag (b9.bg eP) ad))) ?_;grind[aD]
  ·refine bh @tF.eq_2 @xm.eq_1 l (n _ (au.refl _)) st (ag @ae.gU (ag l2 (ag (b9.bg eP) (ag u (ag ah (cn (f.get aO))))))) ?_;refine cT (VX (aE.aB f) k aC h hlen) λK p=> ?_
   have e:=f.trans p;rw[decide_eq_true ad,Bool.true_and];cases E:codeOk x k c with
   |false=>
    refine bN ?_;grind[aD]
   |true=>
    refine bN ?_;refine(on (q+c.ins.length) K ad ad ad (e.get aO) (aE.aB e) (ax.aB e)).mono ?_;rintro r y ⟨rfl,t⟩;exact⟨al,e.trans t⟩
theorem VY{V:af}(aE:cA H ok x V)(h:∀g∈x.ay,g.vars.length<=1000000000)(hlen:∀c∈x.ay,c.ins.length<=1000000000)(i:x.ay.length<=1000000000):W (aK P aG 76 [V] H) λr H'=>r= C (decide (hl x.ay<=2500)&&kr x x.ay 0)/\au H H':=by
 obtain⟨_,rfl,a,b,cc,d,rfl,ah,ai,ax,aM⟩:=aE;refine afu (x.ay.length+1) ?_;have e:=au.push H (.row I 5 [[a,b,cc,d,D F x.main]]);have f:=ae.a2 H (.row I 5 [[a,b,cc,d,D F x.main]]);refine cv @HV.eq_1 (dV ah ai ax aM) (c9 f) (ax.bg cD) ?_;refine(KM h hlen i x.ay.length 0 (x.ay.length+1) 0 _ ad ad ad f ⟨_,rfl,a,b,cc,d,rfl,ah.aB e,ai.aB e,ax.aB e,aM.aB e⟩ (ax.aB e)).mono ?_;rintro r k ⟨rfl,j⟩;refine⟨?_,e.trans j⟩;grind[KJ]
theorem n_{V:af}(aE:cA H ok x V)(E:∀g∈x.ay,g.vars.length<=1000000000)(hlen:∀c∈x.ay,c.ins.length<=1000000000):W (aK P aG 35 [V] H) λr H'=>r= C (right x)/\au H H':=by
 obtain⟨_,rfl,a,b,cc,d,rfl,ah,ai,ax,aM⟩:=aE;refine afa 0 ?_;have y:=au.push H (.row I 5 [[a,b,cc,d,D F x.main]]);have e:=ae.a2 H (.row I 5 [[a,b,cc,d,D F x.main]]);have f:=dV ah ai ax aM x.main;have T:(λl:List cM=>decide (l.length<=8)&&l.all (eD x.b_.length))=nt x:=rfl;have bad:¬(x.b_.length<=12/\x.globals.length<=8/\1<=x.ay.length/\x.ay.length<=16/\x.sites.length<=60)->W (A (af.bool I,H.push (.row I 5 [[a,b,cc,d,D F x.main]]))) λr H'=>r= C (right x)/\au H H':=(by grind[aD,right])
 by_cases br:(12:Int)<(x.b_.length:Int)
 ·simp-implicitDefEqProofs(disch:=try exact aW)only[lS,reduceAdd,reduceLeDiff,reduceIte,bB,f,c9 e,ah.len fo,br,decide_true];grind
 by_cases a1:(8:Int)<(x.globals.length:Int)
 ·simp-implicitDefEqProofs(disch:=try exact aW)only[lS,reduceAdd,reduceLeDiff,reduceIte,bB,f,c9 e,ah.len fo,ai.len cS,br,a1,decide_true,decide_false];grind
 cases bd:((x.ay.length:Int)==0)with
 |true=>
  have B:(x.ay.length:Int)=0:=al;simp-implicitDefEqProofs(disch:=try exact aW)only[lS,reduceAdd,reduceLeDiff,reduceIte,bB,f,c9 e,ah.len fo,ai.len cS,ax.len cD,br,a1,bd,decide_true,decide_false];grind
 |false=>
 have B:¬(x.ay.length:Int)=0:=al;by_cases bn:(16:Int)<(x.ay.length:Int)
 ·simp-implicitDefEqProofs(disch:=try exact aW)only[lS,reduceAdd,reduceLeDiff,reduceIte,bB,f,c9 e,ah.len fo,ai.len cS,ax.len cD,br,a1,bd,bn,decide_true,decide_false];grind
 by_cases bI:(60:Int)<(x.sites.length:Int)
 ·simp-implicitDefEqProofs(disch:=try exact aW)only[lS,reduceAdd,reduceLeDiff,reduceIte,bB,f,c9 e,ah.len fo,ai.len cS,ax.len cD,aM.len fH,br,a1,bd,bn,bI,decide_true,decide_false];grind
 have S:decide (x.b_.length<=12/\x.globals.length<=8/\1<=x.ay.length/\x.ay.length<=16/\x.sites.length<=60)=true:=al;have ar:right x=(jq x&&(x.globals.all (eD x.b_.length)&&(x.b_.all (nt x)&&(x.sites.all (jz x)&&(decide (hl x.ay<=2500)&&kr x x.ay 0))))):=by grind[right]
 rw[ar];by_cases i:x.main<0
 ·simp-implicitDefEqProofs(disch:=try exact aW)only[lS,reduceAdd,reduceLeDiff,reduceIte,bB,f,c9 e,ah.len fo,ai.len cS,ax.len cD,aM.len fH,br,a1,bd,bn,bI,i,decide_true,decide_false];grind[aD,jq,gi]
 by_cases m:(x.ay.length:Int)<=x.main
 ·simp-implicitDefEqProofs(disch:=try exact aW)only[lS,reduceAdd,reduceLeDiff,reduceIte,bB,f,c9 e,ah.len fo,ai.len cS,ax.len cD,aM.len fH,br,a1,bd,bn,bI,i,m,decide_true,decide_false];grind[aD,jq,gi]
 have mlt:x.main.toNat<x.ay.length:=ad;have G:jq x=(x.ay[x.main.toNat].params==0&& !x.ay[x.main.toNat].has):=by
  grind[jq,jK]
 obtain⟨pp,gv,gw,s,t,bV,b9⟩:=(ax.aB y).sr (j:=x.main) (g:=x.ay[x.main.toNat]) ad al;rw[G];generalize x.ay[x.main.toNat]=c at*;have st:=p9 (c:=c) (v:=gv) (w:=gw) (ae.a2 (H.push (.row I 5 [[a,b,cc,d,D F x.main]])) (.row I 7 [[D F 0,.ao,C I,D F 0,D F 0,D F 0,.ao]])) bV.one b9.one;simp only[kD]at st;have z:=au.push (H.push (.row I 5 [[a,b,cc,d,D F x.main]])) (.row I 7 [cG c gv gw]);have h:=y.trans z;have b4:=ae.a2 (H.push (.row I 5 [[a,b,cc,d,D F x.main]])) (.row I 7 [cG c gv gw]);simp only[kD]at b4;have l2:=h8 b4;have aO:=z.get e
 cases q:(c.params==0)with
 |false=>
  simp-implicitDefEqProofs(disch:=try exact aW)only[lS,reduceAdd,reduceLeDiff,reduceIte,bB,f,c9 e,ah.len fo,ai.len cS,ax.len cD,aM.len fH,br,a1,bd,bn,bI,i,m,decide_true,decide_false,s,t _ (au.refl _),st,ae.gU,l2,q];grind[aD]
 |true=>
 cases u:c.has with
 |true=>
  rw[u]at l2;simp-implicitDefEqProofs(disch:=try exact aW)only[lS,reduceAdd,reduceLeDiff,reduceIte,bB,f,c9 e,ah.len fo,ai.len cS,ax.len cD,aM.len fH,br,a1,bd,bn,bI,i,m,decide_true,decide_false,s,t _ (au.refl _),st,ae.gU,l2,q,Bool.not_true];grind[aD]
 |false=>
 rw[u]at l2;simp-implicitDefEqProofs(disch:=try exact aW)only[lS,reduceAdd,reduceLeDiff,reduceIte,bB,f,c9 e,ah.len fo,ai.len cS,ax.len cD,aM.len fH,br,a1,bd,bn,bI,i,m,decide_true,decide_false,s,t _ (au.refl _),st,ae.gU,l2,q,Bool.not_false,cn aO];generalize (H.push (.row I 5 [[a,b,cc,d,D F x.main]])).push (.row I 7 [cG c gv gw])=H0 at*;generalize H.next=zX at*
 have k:cA H0 ok x (.agg [a,b,cc,d,D F x.main]):=⟨_,rfl,a,b,cc,d,rfl,ah.aB h,ai.aB h,ax.aB h,aM.aB h⟩;refine cT (agC k ad) λK p=> ?_
 cases t1:x.b_.all (nt x)with
 |false=>
  refine bN ?_;exact aD.2 ⟨aX,h.trans p⟩
 |true=>
 refine bG (cn (p.get aO)) (c9 (p.get aO)) ?_;refine cT (MI (k.aB p) ((ai.aB h).aB p) ad) λO L=> ?_
 have n:=p.trans L;cases t2:x.globals.all (eD x.b_.length)with
 |false=>
  refine bN ?_;exact aD.2 ⟨aX,h.trans n⟩
 |true=>
 refine bP (cn (n.get aO)) ?_;refine cT (ZS (k.aB n) ad) λQ M=> ?_
 have o:=n.trans M;cases t3:x.sites.all (jz x)with
 |false=>
  refine bN ?_;exact aD.2 ⟨aX,h.trans o⟩
 |true=>
 refine bP (cn (o.get aO)) ?_;refine cT (VY (k.aB o) E hlen ad) λR N=> ?_
 refine bN ?_;exact aD.2 ⟨aX,h.trans (o.trans N)⟩
end
end
section
set_option maxRecDepth 100000
set_option maxHeartbeats 4000000
noncomputable section
def xn(G:aq)(N:Nat):eJ 3 Tryz.f77 G N (·.aa.aa.aa.aa) (a8 Tryz.f77) []:=⟨_,v1 an⟩
def xo(G:aq)(N:Nat)(L1:cg):dI 3 20 21 22 Tryz.f77 G N (·.aa.aa.aa.aj.aa.aj.aj.aa.aa.aa) (bI L1 3 20 21 22) [(0,(a1 (xn G N) 3))]:=⟨_,v4 an⟩
def Cr(G:aq)(N:Nat)(L1:cg)(L3:ec):gM 3 20 21 22 36 37 38 Tryz.f77 G N (·.aa.aa.aa.aj.aa.aj.aj.aa.aa.aj.aj.aa.aa.aa.aj.aj) (dp L3 3 20 21 22 36 37 38) [(2,(bI (xo G N L1) 3 20 21 22)),(1,(bI (xo G N L1) 3 20 21 22)),(0,(a1 (xn G N) 3))]:=⟨_,g2 an⟩
def xq(G:aq)(N:Nat)(L1:cg):Nat->ec
 |0=>kN
 |n+1=>Cr G N L1 (xq G N L1 n)
def Cq(G:aq)(N:Nat)(L1:cg):dI 3 20 21 22 Tryz.f77 G N (·.aa.aa.aa.aj.aa.aj.aj) (bI L1 3 20 21 22) [(0,(a1 (xn G N) 3))]:=⟨_,lI (ak (ak (ak ((xo G N L1).2) (bj (ak (ak (ak (bj (bH (λm=>(Cr G N L1 (xq G N L1 m)).2))) an) an) an))) an) an)⟩
def xp(G:aq)(N:Nat):Nat->cg
 |0=>fq
 |n+1=>Cq G N (xp G N n)
def HX(G:aq)(N:Nat):fM Tryz.f77 G N:=⟨_,o1 (ak (ak (ak (ak ((xn G N).2) (ak (bj (bH (λm=>(Cq G N (xp G N m)).2))) an)) an) an) an)⟩
def afv(N:Nat):=en Tryz.func77 λG=>(HX G N).2
def Ia(G:aq):eO Tryz.f84 G:=⟨_,λN=>qz an (x:=trivial)⟩
def afC(N:Nat):=c1 Tryz.func84 λG=>(Ia G).2 N
def Ib(G:aq):eO Tryz.f85 G:=⟨_,λN=>t2 an⟩
def afD(N:Nat):=c1 Tryz.func85 λG=>(Ib G).2 N
def Ik(G:aq):jH Tryz.f98 G:=⟨_,λN=>t3 an⟩
def afN(N:Nat):=hC Tryz.func98 λG=>(Ik G).2 N
def Gk(G:aq)(N:Nat):eJ 3 Tryz.f127 G N (·.aa.aa.aa) (a8 Tryz.f127) []:=⟨_,v1 an⟩
def Ay(G:aq)(N:Nat)(L1:cg):dI 3 8 9 10 Tryz.f127 G N (·.aa.aa.aj.aa.aj.aj) (bI L1 3 8 9 10) [(0,(a1 (Gk G N) 3))]:=⟨_,lI an (x:=trivial)⟩
def s6(G:aq)(N:Nat):Nat->cg
 |0=>fq
 |n+1=>Ay G N (s6 G N n)
def Gj(G:aq)(N:Nat):fM Tryz.f127 G N:=⟨λa H=>fe H (fj (H).next a) λx1 ah=>fe ah (A (.az (ah).next 0 1 1 (A 1),.row I 1 [[D F 0]])) λx6 ai=>aU (bO P 27 x1 2) λx7=>aU (aI P ai 24 x7) λx8=>eM P .len [24] [x8] ai λx9=>s6 G N N x6 x8 x9 (D F 0) ai,zr (ak (ak (ak ((Gk G N).2) (ak (bj (bH (λm=>(Ay G N (s6 G N m)).2))) an)) an) an)⟩
def adN(N:Nat):=en Tryz.func127 λG=>(Gj G N).2
def Gl(G:aq):g5 Tryz.f128 G:=⟨_,λN=>o1 an (x:=trivial)⟩
def adO(N:Nat):=en Tryz.func128 λG=>(Gl G).2 N
def Gp(G:aq):g5 Tryz.f131 G:=⟨_,λN=>o1 an (x:=trivial)⟩
def adS(N:Nat):=en Tryz.func131 λG=>(Gp G).2 N
def pR(G:aq):nT 0 3 5 9 Tryz.f129 G (·.aa.aa.aj.aa) (a8 Tryz.f129) [(0,(a8 Tryz.f129))]:=⟨_,λN=>lI an⟩
def Gm(G:aq):eO Tryz.f129 G:=⟨_,λN=>t2 (ak (ak (bj (ak ((pR G).2 N) an)) an) an)⟩
def adP(N:Nat):=c1 Tryz.func129 λG=>(Gm G).2 N
def GG(G:aq):Ji Tryz.f169 G:=⟨_,λN=>t5 an⟩
def ad_(N:Nat):=PW Tryz.func169 λG=>(GG G).2 N
def GI(G:aq):eO Tryz.f170 G:=⟨_,λN=>t2 an⟩
def aeb(N:Nat):=c1 Tryz.func170 λG=>(GI G).2 N
def vX(G:aq)(N:Nat):gG 0 3 Tryz.f171 G N (·.aa.aa) (a8 Tryz.f171) []:=⟨_,hh an⟩
def GK(G:aq)(N:Nat)(L1:cx):eY 0 3 7 8 9 Tryz.f171 G N (·.aa.aj.aa.aj.aj.aa.aa.aa) (bY L1 0 3 7 8 9) [(0,(bd (vX G N) 0 3))]:=⟨_,v5 an⟩
def Ba(G:aq)(N:Nat)(L1:cx):eY 0 3 7 8 9 Tryz.f171 G N (·.aa.aj.aa.aj.aj) (bY L1 0 3 7 8 9) [(0,(bd (vX G N) 0 3))]:=⟨_,ng (ak (ak (ak ((GK G N L1).2) an) an) an)⟩
def vY(G:aq)(N:Nat):Nat->cx
 |0=>hH
 |n+1=>Ba G N (vY G N n)
def GJ(G:aq)(N:Nat):fW Tryz.f171 G N:=⟨_,t2 (ak (ak ((vX G N).2) (ak (bj (bH (λm=>(Ba G N (vY G N m)).2))) an)) an)⟩
def aec(N:Nat):=c1 Tryz.func171 λG=>(GJ G N).2
def Bb(G:aq):eO Tryz.f172 G:=⟨_,λN=>t2 an⟩
def aed(N:Nat):=c1 Tryz.func172 λG=>(Bb G).2 N
def GL(G:aq):eO Tryz.f173 G:=⟨_,λN=>t2 an⟩
def aee(N:Nat):=c1 Tryz.func173 λG=>(GL G).2 N
def GM(G:aq):eO Tryz.f174 G:=⟨_,λN=>t2 an⟩
def aef(N:Nat):=c1 Tryz.func174 λG=>(GM G).2 N
def GN(G:aq):eO Tryz.f175 G:=⟨_,λN=>qz an⟩
def aeg(N:Nat):=c1 Tryz.func175 λG=>(GN G).2 N
end
end
end Go.Proofs.YtmhhnnklfcbgfaaGreat
namespace Go.a_
open Go.cw
structure l0(x:bC)(f:Nat)(c:bT):Prop where
 r:ez x
 at_:x.ay[f]? =some c
def l0.ok{x:bC}{f:Nat}{c:bT}(h:l0 x f c):I3 x f c:=ia (h.r.code h.at_)
section
variable {x:bC}{f:Nat}{c:bT}{i:In}
theorem yh(aZ:i.op=3)(h:dY x f c i=J):a6 c i.a≠bt/\a6 c i.a=a6 c i.b:=by
 grind[dY]
theorem yi(aZ:i.op=6)(h:dY x f c i=J):a6 c i.a≠bt/\a6 c i.a=e8 x (a6 c i.b) i.c:=by
 grind[dY]
theorem yj(aZ:i.op=7)(h:dY x f c i=J):a6 c i.b≠bt/\a6 c i.b=e8 x (a6 c i.a) i.c:=by
 grind[dY]
theorem yk(aZ:i.op=8)(h:dY x f c i=J):a6 c i.a≠bt/\0<(a6 c i.b).d/\a6 c i.c=da/\a6 c i.a=less (a6 c i.b):=by
 grind[dY]
theorem yl(aZ:i.op=9)(h:dY x f c i=J):a6 c i.c≠bt/\0<(a6 c i.a).d/\a6 c i.b=da/\a6 c i.c=less (a6 c i.a):=by
 grind[dY]
theorem rJ(aZ:i.op=11)(h:dY x f c i=J):(a6 c i.a≠bt/\(a6 c i.a).b=3/\(a6 c i.a).d=0)/\iT x f i.n (a6 c i.a)=true:=by
 grind[dY]
theorem rK(aZ:i.op=12)(h:dY x f c i=J):(0<(a6 c i.a).d/\a6 c i.b=da)/\iT x f i.n (a6 c i.a)=true:=by
 grind[dY]
def oD(aZ:i.op=13)(h:dY x f c i=J):∃g,I1 x c i g:=by
 unfold dY at h;simp only[Bool.and_eq_true,aZ]at h;exact U7 h.2
theorem R7(aZ:i.op=18)(h:dY x f c i=J):(c.has=J/\a6 c i.a≠bt/\a6 c i.a=c.res)\/(c.has=I/\i.a= -1):=by
 grind[dY]
theorem tP(aZ:i.op=19)(h:dY x f c i=J):a6 c i.a≠bt/\eK x.globals i.n=A (a6 c i.a):=by
 grind[dY]
theorem tQ(aZ:i.op=20)(h:dY x f c i=J):a6 c i.a≠bt/\eK x.globals i.n=A (a6 c i.a):=by
 grind[dY]
def n1{t:cM}(h:0<t.d):t≠bt:=by rintro rfl;revert h;decide
theorem sA{k:Int}{t:cM}(h:e8 x t k≠bt):t≠bt:=by
 grind[e8,mL,bt]
theorem l0.node(w:l0 x f c){v:Int}(h:a6 c v≠bt):bk x.ay f+v.toNat<cf x:=by
 have:=rQ w.at_ (FD h).2.1;grind[cf]
theorem l0.res(w:l0 x f c):eG x f<cf x:=by
 have:=(List.getElem?_eq_some_iff.1 w.at_).1;grind[eG,cf]
theorem Mc{t:cM}{n:Int}(h:eK x.globals n=A t):ew x n.toNat<cf x:=by
 have:=(mb h).2.1;grind[ew,cf]
theorem JG{at_ to:Nat}{k:bp}:∀{l:List Int} {j:Nat},k∈ix c at_ to l j->∃(m:Nat) (v:Int),l[m]? =A v/\dy c v=J/\k= .copy (to+(j+m)) (at_+v.toNat)
 |[],j,h=>by simp[ix]at h
 |v::l,j,h=>by
  simp only[ix,List.mem_append]at h;rcases h with h|h
  ·cases a:dy c v with
   |true=>
    rw[a]at h;simp only[g8,List.mem_singleton]at h;exact⟨0,v,rfl,a,h⟩
   |false=>grind
  ·obtain⟨m,w,ah,ai,ax⟩:=JG h;exact⟨m+1,w,by grind,ai,by grind⟩
theorem oe{α:Type}{b:Bool}{a k:α}(h:k∈(bif b then[a]else[])):b=J/\k=a:=by
 grind
theorem l0.ajP(w:l0 x f c)(h:dY x f c i=J):gg (cf x) x.sites.length (cZ x f c i):=by
 intro k d;unfold cZ at d;split at d
 ·rename_i aZ;obtain⟨ah,ai⟩:=yh aZ h;obtain⟨_,rfl⟩:=oe d;exact⟨w.node ah,w.node (ai▸ah)⟩
 ·rename_i aZ;obtain⟨ah,ai⟩:=yi aZ h;obtain⟨_,rfl⟩:=oe d;have ax:e8 x (a6 c i.b) i.c≠bt:=ai▸ah;exact⟨w.node ah,w.node (sA ax),(sz w.r ax).2⟩
 ·rename_i aZ;obtain⟨ah,ai,_,_⟩:=yk aZ h;obtain⟨_,rfl⟩:=oe d;exact⟨w.node ah,w.node (n1 ai),by omega⟩
 ·rename_i aZ;obtain⟨ah,ai⟩:=yj aZ h;obtain⟨_,rfl⟩:=oe d;have ax:e8 x (a6 c i.a) i.c≠bt:=ai▸ah;exact⟨w.node (sA ax),w.node ah,(sz w.r ax).2⟩
 ·rename_i aZ;obtain⟨ah,ai,_,_⟩:=yl aZ h;obtain⟨_,rfl⟩:=oe d;exact⟨w.node (n1 ai),w.node ah,by omega⟩
 ·rename_i aZ;obtain⟨ah,ai⟩:=rJ aZ h;simp only[List.mem_singleton]at d;subst d;exact⟨w.node ah.1,(nc ai).2.1⟩
 ·rename_i aZ;obtain⟨ah,ai⟩:=rK aZ h;simp only[List.mem_singleton]at d;subst d;exact⟨w.node (n1 ah.1),(nc ai).2.1⟩
 ·rename_i aZ;obtain⟨g,aS⟩:=oD aZ h;have j:l0 x i.c.toNat g:=⟨w.r,aS.at_.2⟩;rcases List.mem_append.1 d with d|d
  ·obtain⟨m,v,ah,ai,rfl⟩:=JG d;obtain⟨ax,aM⟩:=aS.arg ah;have e:=(List.getElem?_eq_some_iff.1 aM).1;have l:=rQ aS.at_.2 e;refine⟨?_,w.node ax⟩;grind[cf]
  ·obtain⟨ah,rfl⟩:=oe d;simp only[Bool.and_eq_true]at ah;exact⟨w.node (Af ah.2),j.res⟩
 ·rename_i aZ;obtain⟨ah,rfl⟩:=oe d;simp only[Bool.and_eq_true]at ah;exact⟨w.res,w.node (Af ah.2)⟩
 ·rename_i aZ;obtain⟨ah,ai⟩:=tP aZ h;obtain⟨_,rfl⟩:=oe d;exact⟨w.node ah,Mc ai⟩
 ·rename_i aZ;obtain⟨ah,ai⟩:=tQ aZ h;obtain⟨_,rfl⟩:=oe d;exact⟨Mc ai,w.node ah⟩
 grind
theorem KR{k:bp}:∀{cs:List bT} {f:Nat},k∈ks x cs f->∃j c i,cs[j]? =A c/\i∈c.ins/\k∈cZ x (f+j) c i
 |[],f,h=>by simp[ks]at h
 |c::cs,f,h=>by
  simp only[ks,List.mem_append,uz,List.mem_flatMap]at h;rcases h with⟨i,ah,ai⟩|h
  ·exact⟨0,c,i,rfl,ah,ai⟩
  ·obtain⟨j,d,i,ah,ai,ax⟩:=KR h;exact⟨j+1,d,i,by grind,ai,by grind⟩
def y3(ar:ez x):gg (cf x) x.sites.length (cons x):=by
 intro k a;obtain⟨j,c,i,ah,ai,ax⟩:=KR a;rw[Nat.zero_add]at ax;have w:l0 x j c:=⟨ar,ah⟩;exact w.ajP (w.ok.ins ai) k ax
end
end Go.a_
namespace Go.Proofs.YtmhhnnklfcbgfaaGreat
open Go.cw
open Nat (reduceAdd reduceLeDiff)
section
open Go.a_
set_option maxRecDepth 2000
section
variable {H:ae}{ok:Nat->Prop}{x:bC}
theorem Am(ar:ez x){g:bT}(aS:g∈x.ay):g.vars.length<=4000:=by
 obtain⟨f,aC⟩:=List.getElem?_of_mem aS;exact(ia (ar.code aC)).vars
theorem pG(ar:ez x):∀g∈x.ay,g.vars.length<=1000000000:=(by grind[Am])
theorem qK:∀{cs:List bT} {c:bT},c∈cs->c.ins.length<=hl cs
 |[],_,h=>al
 |d::cs,c,h=>by
  rw[hl];rcases List.mem_cons.1 h with rfl|h
  ·omega
  ·have:=qK h;omega
theorem pI(h:right x=J):hl x.ay<=2500:=by
 grind[right]
theorem pH(h:right x=J):∀c∈x.ay,c.ins.length<=1000000000:=λc aA=>by have:=qK aA;grind[pI]
theorem qd(ar:ez x):∀k,bk x.ay k<=4000*k
 |0=>by simp[bk]
 |k+1=>by
  have a:=qd ar k;grind[bk,Am]
theorem kV(ar:ez x):fN x.ay<=64000:=by
 have:=qd ar x.ay.length;have:=ar.ay;grind[fN]
def kC(x:bC)(k:Nat):List Int:=(List.range (k+1)).map λj=>(bk x.ay j:Int)
theorem Oq(x:bC)(k:Nat):(kC x k).length=k+1:=by simp[kC]
theorem sR(x:bC){k j:Nat}(h:j<=k):(kC x k)[j]? =A (bk x.ay j:Int):=by
 grind[kC]
theorem ab3(x:bC)(k:Nat):kC x (k+1)=kC x k++[(bk x.ay (k+1):Int)]:=by
 grind[kC,List.range_succ]
theorem Ov(ar:ez x){cc:af}{B:Nat}{N:Nat}:∀(j k m:Nat) (H:ae) (v:af),k+j=x.ay.length->j<m->aY aN B bb H (kC x k) v->B<=H.next->aH gf H (· <B) x.ay cc->
  W (s6 (aK P aG) N m v cc (D F x.ay.length) (D F k) H) λr H'=>aY aN B bb H' (kC x x.ay.length) r/\cl B H H'
 |_,_,0,_,_,_,hm,_,_,_=>ad
 |0,k,m+1,H,v,t,_,aw,f,ax=>by
  have b:¬(k:Int)<(x.ay.length:Int):=ad;refine aij @s6.eq_2 @Ay.eq_1 @Gk.eq_1 b @decide_false ?_;have e:k=x.ay.length:=ad;subst e;exact aD.2 ⟨aw,.refl _ _⟩
 |j+1,k,m+1,H,v,t,Q,aw,f,ax=>by
  have b:(k:Int)<(x.ay.length:Int):=ad;have u:k<x.ay.length:=ad;have O:=ar.ay;obtain⟨pp,gv,gw,z,E,bV,b9⟩:=ax.sr (j:=(k:Int)) (g:=x.ay[k]) ad al;have y:bk x.ay (k+1)=bk x.ay k+x.ay[k].vars.length:=Dn al;have S:=Am ar (List.getElem_mem u);have R:=qd ar k;have on:=Ov ar (cc:=cc) (B:=B) (N:=N) j (k+1) m;rw[ab3,y]at on;generalize x.ay[k]=c at*;have st:=p9 (c:=c) (v:=gv) (w:=gw) (ae.a2 H (.row I 7 [[D F 0,.ao,C I,D F 0,D F 0,D F 0,.ao]])) bV.one b9.one;have i:=au.push H (.row I 7 [cG c gv gw]);have b4:=ae.a2 H (.row I 7 [cG c gv gw]);have l2:=h8 b4;have h:=aw.aB i
  obtain⟨p,i1,i2⟩:=h.az.int (j:=(k:Int)) (a:=(bk x.ay k:Int)) ad (by grind[sR]);have K:IntKind.i64.wrap (((k+1:Nat):Int)-1)=(k:Int):=by grind[wrap_i64]
  have L:IntKind.i64.wrap ((bk x.ay k:Int)+(c.vars.length:Int))=((bk x.ay k+c.vars.length:Nat):Int):=by grind[wrap_i64]
  have hlen:=aw.az.len b0 (H0:= .empty);rw[Oq]at hlen;obtain⟨G,H',d,l,n,o,_⟩:=h.jU (a:=((bk x.ay k+c.vars.length:Nat):Int)) (by simp;omega) (by grind[Oq]);have hle:((H.push (.row I 7 [cG c gv gw])).push (.row I 1 [[D F ((bk x.ay k+c.vars.length:Nat):Int)]])).next<=H'.next:=by simp;simp at o;omega
  simp only[kD]at d;refine qb @s6.eq_2 @Ay.eq_1 b @decide_true z (ag (E _ (au.refl _)) (ag st (ag @ae.gU (ag hlen (ag K (ag i1 (ag i2 (ag l2 (ag (bV.bg cS) (ag L (ag @c2 d))))))))))) ?_;have pu:cl B H H':=(ek i f).trans n;refine Sf (fB (show k<=1000000000 by omega)) ?_;refine(on H' G ad ad l (by have:=pu.1;omega) (ax.e3 pu)).mono ?_;rintro r M ⟨q,s⟩;exact⟨q,pu.trans s⟩
theorem Fy(ar:ez x){V:af}(aE:cA H ok x V):W (aK P aG 127 [V] H) λr H'=>aY aN H.next bb H' (kC x x.ay.length) r/\au H H':=by
 obtain⟨_,rfl,a,b,cc,d,rfl,ah,ai,ax,aM⟩:=aE;refine adN (x.ay.length+1) ?_;have n:=au.push H (.row I 5 [[a,b,cc,d,D F x.main]]);have j:=ae.a2 H (.row I 5 [[a,b,cc,d,D F x.main]]);have e:=au.push (H.push (.row I 5 [[a,b,cc,d,D F x.main]])) (.row I 1 [[D F 0]]);have c:=n.trans e;refine cv @Gj.eq_1 (dV ah ai ax aM) (c9 (e.get j)) (ax.bg cD) ?_;have m:aY aN H.next bb ((H.push (.row I 5 [[a,b,cc,d,D F x.main]])).push (.row I 1 [[D F 0]])) (kC x 0) (.az (H.next+1) 0 1 1 (A 1)):=⟨.inr ⟨H.next+1,[[D F 0]],A 1,rfl,trivial,ae.a2 _ _,by simp[kC],.inr rfl,λi a aP=>by
  rcases i with _|i
  ·cases aP;exact⟨_,rfl,rfl⟩
  grind[kC]⟩,al⟩
 refine(Ov ar (B:=H.next) x.ay.length 0 (x.ay.length+1) _ _ ad ad m c.1 (ax.below.keep λk b l g=>⟨l,c.get g⟩)).mono ?_;rintro r o ⟨f,h⟩;exact⟨f,cl.aB ((ek c ad).trans h)⟩
theorem Dm(ar:ez x){V:af}(aE:cA H ok x V):W (aK P aG 128 [V] H) λr H'=>r= D F (fN x.ay)/\au H H':=by
 have g:=aE;obtain⟨_,rfl,a,b,cc,d,rfl,ah,ai,ax,aM⟩:=aE;refine adO 0 ?_;have e:=au.push H (.row I 5 [[a,b,cc,d,D F x.main]]);have c:=ae.a2 H (.row I 5 [[a,b,cc,d,D F x.main]]);refine b3 @Gl.eq_1 (dV ah ai ax aM) (cn c) ?_;refine e2 (Fy ar (g.aB e)) λnv K f p=> ?_
 obtain⟨q,i1,i2⟩:=f.az.int (j:=(x.ay.length:Int)) (a:=(fN x.ay:Int)) ad (by grind[fN,sR]);have h:bF (A (.agg [a,b,cc,d,D F x.main])) (.agg [a,b,cc,d,D F x.main])=true:=by simp[bF,af.beq,e6.beq,ah.rd,ai.rd,ax.rd,aM.rd]
 refine cv (c9 (p.get c)) (ax.bg cD) i1 i2 ?_;refine ds (λH' p=>(ag (cn (p.get c)) (ag (c9 (p.get c)) (ag (ax.bg cD) (ag h (ag (dF ax) @fp)))))) (aD.2 ⟨rfl,e.trans p⟩)
theorem V4(ar:right x=J){V:af}(aE:cA H ok x V):W (aK P aG 131 [V] H) λr H'=>r= D F (cf x:Nat)/\au H H':=by
 have g:=aE;have e:=ga ar;have n:=kV e;have o:=e.ay;have q:=e.globals;obtain⟨_,rfl,a,b,cc,d,rfl,ah,ai,ax,aM⟩:=aE;refine adS 0 ?_;have f:=au.push H (.row I 5 [[a,b,cc,d,D F x.main]]);have c:=ae.a2 H (.row I 5 [[a,b,cc,d,D F x.main]]);have j:bF (A (.agg [a,b,cc,d,D F x.main])) (.agg [a,b,cc,d,D F x.main])=true:=by simp[bF,af.beq,e6.beq,ah.rd,ai.rd,ax.rd,aM.rd]
 refine b3 @Gp.eq_1 (dV ah ai ax aM) (cn c) ?_;refine bw (n_ (g.aB f) (pG e) (pH ar)) λK p=> ?_
 rw[ar];refine bP (cn (p.get c)) ?_;refine bw (Dm e ((g.aB f).aB p)) λm i=> ?_
 have h:=p.trans i;have k:IntKind.i64.wrap ((fN x.ay:Int)+(x.ay.length:Int))=((fN x.ay+x.ay.length:Nat):Int):=by grind[wrap_i64]
 have l:IntKind.i64.wrap (((fN x.ay+x.ay.length:Nat):Int)+(x.globals.length:Int))=((cf x:Nat):Int):=by grind[wrap_i64,cf]
 refine c_ (c9 (h.get c)) (ax.bg cD) (ai.bg cS) k l ?_;refine ds (λH' p=>(ag (cn (p.get (au.get ‹_› c))) (ag (c9 (p.get (au.get ‹_› c))) (ag (ax.bg cD) (ag (ai.bg cS) (ag j (ag (dF ax) (ag (dF ai) @fp)))))))) (aD.2 ⟨rfl,f.trans h⟩)
theorem Y4(ar:right x=J){V:af}(aE:cA H ok x V){g:Nat}(aS:g<x.globals.length):W (aK P aG 84 [V,D F (g:Nat)] H) λr H'=>r= D F (ew x g:Nat)/\au H H':=by
 have h:=aE;have e:=ga ar;have o:=kV e;have q:=e.ay;have s:=e.globals;obtain⟨_,rfl,a,b,cc,d,rfl,ah,ai,ax,aM⟩:=aE;refine afC 0 ?_;have f:=au.push H (.row I 5 [[a,b,cc,d,D F x.main]]);have c:=ae.a2 H (.row I 5 [[a,b,cc,d,D F x.main]]);have k:bF (A (.agg [a,b,cc,d,D F x.main])) (.agg [a,b,cc,d,D F x.main])=true:=by simp[bF,af.beq,e6.beq,ah.rd,ai.rd,ax.rd,aM.rd]
 refine b3 @Ia.eq_1 (dV ah ai ax aM) (cn c) ?_;refine bw (n_ (h.aB f) (pG e) (pH ar)) λK p=> ?_
 rw[ar];refine b3 (cn (p.get c)) (c9 (p.get c)) (ai.bg cS) ?_;refine bw (Dm e ((h.aB f).aB p)) λn j=> ?_
 have i:=p.trans j;have l:IntKind.i64.wrap ((fN x.ay:Int)+(x.ay.length:Int))=((fN x.ay+x.ay.length:Nat):Int):=by grind[wrap_i64]
 have m:IntKind.i64.wrap (((fN x.ay+x.ay.length:Nat):Int)+(g:Int))=((ew x g:Nat):Int):=by grind[wrap_i64,ew]
 refine cv (c9 (i.get c)) (ax.bg cD) l m ?_;refine ds (λH' p=>(ag (cn (p.get (au.get ‹_› c))) (ag (c9 (p.get (au.get ‹_› c))) (ag (ax.bg cD) (ag (ai.bg cS) (ag k (ag (dF ax) (ag (dF ai) @fp)))))))) (aD.2 ⟨rfl,f.trans i⟩)
theorem ac9(ar:right x=J){V:af}(aE:cA H ok x V){f:Nat}(aC:f<x.ay.length):W (aK P aG 85 [V,D F (f:Nat)] H) λr H'=>r= D F (eG x f:Nat)/\au H H':=by
 have h:=aE;have c:=ga ar;have m:=kV c;have n:=c.ay;have o:=c.globals;obtain⟨_,rfl,a,b,cc,d,rfl,ah,ai,ax,aM⟩:=aE;refine afD 0 ?_;have g:=au.push H (.row I 5 [[a,b,cc,d,D F x.main]]);have e:=ae.a2 H (.row I 5 [[a,b,cc,d,D F x.main]]);have q:bF (A (.agg [a,b,cc,d,D F x.main])) (.agg [a,b,cc,d,D F x.main])=true:=by simp[bF,af.beq,e6.beq,ah.rd,ai.rd,ax.rd,aM.rd]
 refine b3 @Ib.eq_1 (dV ah ai ax aM) (cn e) ?_;refine bw (n_ (h.aB g) (pG c) (pH ar)) λK p=> ?_
 rw[ar];refine b3 (cn (p.get e)) (c9 (p.get e)) (ax.bg cD) ?_;refine bw (Dm c ((h.aB g).aB p)) λl j=> ?_
 have i:=p.trans j;have k:IntKind.i64.wrap ((fN x.ay:Int)+(f:Int))=((eG x f:Nat):Int):=by grind[wrap_i64,eG]
 refine bP k ?_;exact aD.2 ⟨rfl,g.trans i⟩
theorem ajy(ar:right x=J){V:af}(aE:cA H ok x V){f v:Nat}{c:bT}(aC:x.ay[f]? =A c)(o:v<c.vars.length):W (aK P aG 98 [V,D F (f:Nat),D F (v:Nat)] H) λr H'=>r= D F (bk x.ay f+v:Nat)/\au H H':=by
 have k:=aE;have g:=ga ar;have z:=kV g;have B:=g.ay;have G:=g.globals;obtain⟨_,rfl,a,b,cc,d,rfl,ah,ai,ax,aM⟩:=aE;refine afN 0 ?_;have h:=au.push H (.row I 5 [[a,b,cc,d,D F x.main]]);have i:=ae.a2 H (.row I 5 [[a,b,cc,d,D F x.main]]);have N:bF (A (.agg [a,b,cc,d,D F x.main])) (.agg [a,b,cc,d,D F x.main])=true:=by simp[bF,af.beq,e6.beq,ah.rd,ai.rd,ax.rd,aM.rd]
 refine b3 @Ik.eq_1 (dV ah ai ax aM) (cn i) ?_;refine bw (n_ (k.aB h) (pG g) (pH ar)) λK p=> ?_
 rw[ar];have E:=(List.getElem?_eq_some_iff.1 aC).1;have M:=rQ aC o;obtain⟨L,n,ro,els,y,t,_,l,e,gv,gw,rfl,bV,b9⟩:=((ax.aB h).aB p).at_ (K:=gf) cD (j:=(f:Int)) (a:=c) ad al;have m:K.get L=A (.row ro 7 els):=l;have lv:aI P K 23 (.ptr L n 1)=A gv:=sI m e;refine bh (cn (p.get i)) (c9 (p.get i)) (ax.bg cD) t lv (bV.bg cS) ?_;refine e2 (Fy g ((k.aB h).aB p)) λnv w cL s=> ?_
 obtain⟨q,i1,i2⟩:=cL.az.int (j:=(f:Int)) (a:=(bk x.ay f:Int)) ad (by grind[sR]);have u:IntKind.i64.wrap ((bk x.ay f:Int)+(v:Int))=((bk x.ay f+v:Nat):Int):=by grind[wrap_i64]
 refine b3 i1 i2 u ?_;exact aD.2 ⟨rfl,h.trans (p.trans s)⟩
end
end
section
open Go.a_
set_option maxRecDepth 2000
def cU:bp->List af
 | .base a b=>[D F 1,D F (a:Nat),D F (b:Nat),D F 0]
 | .copy a b=>[D F 2,D F (a:Nat),D F (b:Nat),D F 0]
 | .load a b f=>[D F 3,D F (a:Nat),D F (b:Nat),D F (f:Nat)]
 | .store a b f=>[D F 4,D F (a:Nat),D F (b:Nat),D F (f:Nat)]
 | .same a b=>[D F 5,D F (a:Nat),D F (b:Nat),D F 0]
def cP:eS bp:=⟨4,λ_ _ c cs=>cs=cU c,by rintro _ _ c _ rfl;cases c<;>exact⟨rfl,rfl⟩,λ_ h=>h⟩
def ik:fa 53 56 4:=⟨aF,aF,⟨32,aF,bZ⟩,⟨.agg [D F 0,D F 0,D F 0,D F 0],aF,rfl,rfl⟩,bZ⟩
def iG(x:bC)(f:Nat)(c:bT)(gv gw cB cc rv:af):List af:=[D F c.params,gv,C c.has,D F c.res.b,D F c.res.r,D F c.res.d,gw,cB,D F f,D F (fN x.ay),cc,rv]
structure gF(x:bC)(f:Nat)(c:bT)(gv gw cB cc:af)(M:Nat)(l:List bp)(H:ae)(rv:af):Prop where
 g:H.get M=some (.row false 12 [iG x f c gv gw cB cc rv])
 r:aY cP (M+1) bb H l rv
 bV:aH e_ H (· <M) c.vars gv
 b9:aH gq H (· <M) c.ins gw
 aL:aH aN H (· <M) (kC x x.ay.length) cB
 aA:aH gf H (· <M) x.ay cc
section
variable {H:ae}{x:bC}{f:Nat}{c:bT}{gv gw cB cc rv:af}{M:Nat}{l:List bp}
def gF.lt(m:gF x f c gv gw cB cc M l H rv):M<H.next:=ae.bq m.g
theorem gF.aB{H':ae}(m:gF x f c gv gw cB cc M l H rv)(p:au H H'):gF x f c gv gw cB cc M l H' rv:=
 ⟨p.get m.g,m.r.aB p,m.bV.aB p,m.b9.aB p,m.aL.aB p,m.aA.aB p⟩
def np(g:H.get M=A (.row I 12 [iG x f c gv gw cB cc rv])):aI P H 23 (.ptr M 0 1)=A gv/\aI P H 30 (.ptr M 0 7)=A cB/\aI P H 3 (.ptr M 0 8)=A (D F f)/\aI P H 3 (.ptr M 0 9)=A (D F (fN x.ay))/\aI P H 24 (.ptr M 0 10)=A cc/\aI P H 53 (.ptr M 0 11)=A rv:=by
 rw[iG]at g;exact kz g
def Dz(zI:Nat)(rv:af):Prop:=∀L n cap,rv= .az L 0 n 4 cap->zI≠L
theorem aY.qo{α:Type}{K:eS α}{H:ae}{ok ok':Nat->Prop}{B:Nat}{H1:ae}{t e:Nat}(y:fa t e K.esz){l:List α}{v:af}{a:α}{cs:List af}(h:aY K B ok H l v)(m:B<=H.next)(p:au H H1)(o:K.V H1 (λk=>H.next<=k) a cs)(r:∀k,ok k\/H.next<=k->ok' k)(aw:l.length<=999999999):
  ∃b H',eA P (H1.push (.row I K.esz [cs])) [t,t] v (.az H1.next 0 1 K.esz (A 1))=A (b,H')/\aY K B ok' H' (l++[a]) b/\cl B H H'/\H1.next<H'.next/\(∀k,k<H1.next->(∀L n c,v= .az L 0 n K.esz c->k≠L)->H'.get k=H1.get k)/\(b=v\/∃n,b= .az (H1.next+1) 0 n K.esz Z):=by
 have pp:=au.push H1 (.row I K.esz [cs]);have x:=p.1;have w:∀L n c,v= .az L 0 n K.esz c->L<H.next:=λL n c s=>h.eL.lt s
 obtain⟨b,H',f,g,d,i,j⟩:=aY.app (ok:=ok) (ok':=ok') y ((h.aB p).aB pp) (by simp;omega) (lo.one y (ae.a2 _ _) (K.keep (.aB pp) o)) al al (r _ (.inr (by simp;omega))) al;refine⟨b,H',f,g,((ek p m).trans (ek pp ad)).trans d,by have:=d.1;simp at this;omega,λk u q=> ?_,fA j⟩;rw[i k (by simp;omega) q,ae.eW ad]
theorem Jl(m:gF x f c gv gw cB cc M l H rv)(aw:l.length<=999999998){k a b e:Int}(d:bp)(aA:cU d=[D F k,D F a,D F b,D F e]):W (aK P aG 169 [.ptr M 0 0,D F k,D F a,D F b,D F e] H) λr H'=>r= .tuple []/\H.next<=H'.next/\cl M H H'/\∃y,gF x f c gv gw cB cc M (l++[d]) H' y/\∀zI,zI<H.next->zI≠M->Dz zI rv->Dz zI y/\H'.get zI=H.get zI:=by
 refine ad_ 0 ?_;have V:=m.lt;obtain⟨j,H',B,o,u,T,G,N⟩:=aY.qo (K:=cP) (ok:=bb) (ok':=bb) ik m.r ad (au.refl H) (a:=d) (cs:=cU d) rfl (λ_ _=>trivial) ad;have hle:(H.push (.row I 4 [cU d])).next<=H'.next:=by simp;omega
 have bX:H'.get M=A (.row I 12 [iG x f c gv gw cB cc rv]):=by rw[u.2 M ad];exact m.g
 have az:=mW ik H.next (v:= .agg (cU d)) (cs:=cU d) rfl al (by cases d<;>rfl)
 have z:ei P 56 [(0,D F k),(1,D F a),(2,D F b),(3,D F e)]=A (.agg (cU d)):=by rw[aA];exact JZ rfl rfl rfl rfl
 have st:cr P H' 53 (.ptr M 0 11) j=A (H'.set M (.row I 12 [iG x f c gv gw cB cc j])):=by
  have s:=o.az.one;have Q:=dq s;rw[e4 (n:=1) aF bX rfl al al bZ,Q];rfl
 refine cv @GG.eq_1 (np m.g) z az ?_;have E:eA P (H.push (.row I 4 [cU d])) [53,53] rv (.az H.next 0 1 4 (A 1))=A (j,H'):=B;refine bG E st ?_;have R:=ae.bq bX;have low:∀i,i<M->(H'.set M (.row I 12 [iG x f c gv gw cB cc j])).get i=H.get i:=λi p=>by rw[ae.b8 ad];exact u.2 i ad
 have q:∀{α:Type} {K:eS α} {l:List α} {v:af},aH K H (· <M) l v->aH K (H'.set M (.row I 12 [iG x f c gv gw cB cc j])) (· <M) l v:=λh=>h.keep λi b p g=>al
 refine aD.2 ⟨rfl,by simp;omega,⟨by simp;omega,low⟩,j,⟨?_,?_,q m.bV,q m.b9,q m.aL,q m.aA⟩,λzI O U p=>⟨λL n cap s=> ?_,?_⟩⟩
 ·exact ae.cH R
 ·refine⟨?_,o.low⟩;rcases o.eL with h|⟨L',els,cap,w,S,aa,t⟩
  ·exact .inl h
  ·have:=o.low _ _ _ w;exact .inr ⟨L',els,cap,w,S,by grind[ae.b8],t.1,t.2.1,t.2.2⟩
 ·rcases N with rfl|⟨Y,rfl⟩
  ·exact p L n cap s
  grind
 ·rw[ae.b8 ad];exact G zI O p
theorem ab2(ar:ez x)(m:gF x f c gv gw cB cc M l H rv)(aC:x.ay[f]? =A c)(n:Nat)(aL:n<c.vars.length):W (aK P aG 170 [.ptr M 0 0,D F n] H) λr H'=>r= D F ((bk x.ay f+n:Nat):Int)/\au H H':=by
 refine aeb 0 ?_;have e:=(List.getElem?_eq_some_iff.1 aC).1;have h:=rQ aC aL;have d:=kV ar;obtain⟨q,i1,i2⟩:=m.aL.int (j:=(f:Int)) (a:=(bk x.ay f:Int)) ad (by grind[sR]);have b:IntKind.i64.wrap ((bk x.ay f:Int)+(n:Int))=((bk x.ay f+n:Nat):Int):=by grind[wrap_i64]
 refine c_ @GI.eq_1 (np m.g) i1 i2 b ?_;grind[aD,au.refl]
theorem Fs(m:gF x f c gv gw cB cc M l H rv)(n:Int)(aL:n<c.vars.length):W (aK P aG 172 [.ptr M 0 0,D F n] H) λr H'=>r= C (decide (0<=n)&&dy c n)/\au H H':=by
 refine aed 0 ?_;by_cases a:0<=n
 ·have e:n.toNat<c.vars.length:=ad;obtain⟨p,b,d⟩:=m.bV.Dl (j:=n) (t:=c.vars[n.toNat]) a al;have aZ:a6 c n=c.vars[n.toNat]:=by grind[a6,jK]
  rw[dy,aZ];refine qb @Bb.eq_1 (np m.g) a @decide_true b (d _ (au.refl _)) ?_;refine cT (EI _) λK p=> ?_
  refine aii ?_;grind[aD]
 ·refine IF @Bb.eq_1 a @decide_false ?_;grind[aD,au.refl]
theorem ac7(ar:ez x)(m:gF x f c gv gw cB cc M l H rv)(n:Nat)(aL:n<=1000):W (aK P aG 173 [.ptr M 0 0,D F n] H) λr H'=>r= D F (eG x n:Nat)/\au H H':=by
 refine aee 0 ?_;have b:=kV ar;have a:IntKind.i64.wrap ((fN x.ay:Int)+(n:Int))=((eG x n:Nat):Int):=by grind[wrap_i64,eG]
 refine b3 @GL.eq_1 (np m.g) a ?_;grind[aD,au.refl]
theorem abw(ar:ez x)(m:gF x f c gv gw cB cc M l H rv)(n:Nat)(aL:n<=1000):W (aK P aG 174 [.ptr M 0 0,D F n] H) λr H'=>r= D F (ew x n:Nat)/\au H H':=by
 refine aef 0 ?_;have d:=kV ar;have e:=ar.ay;have a:IntKind.i64.wrap ((fN x.ay:Int)+(x.ay.length:Int))=((fN x.ay+x.ay.length:Nat):Int):=by grind[wrap_i64]
 have b:IntKind.i64.wrap (((fN x.ay+x.ay.length:Nat):Int)+(n:Int))=((ew x n:Nat):Int):=by grind[wrap_i64,ew]
 refine c_ @GM.eq_1 (np m.g) (m.aA.bg cD) a b ?_;grind[aD,au.refl]
