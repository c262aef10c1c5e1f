/-
  Texts of one proof, laid together: Ls.
-/
import Derived.Test.YtolnciihfbifcaaGreatMX
set_option linter.unusedVariables false
set_option linter.unusedSimpArgs false
set_option linter.defProp false
open Go.cV.aa renaming str→X,bool→Z
namespace Go.Proofs.YtolnciihfbifcaaGreat
open Go.cV
set_option linter.defProp false
def Ns:=aQ @af.jP @af.zj
def P8:=aQ (aQ (aQ (aQ (aQ @asm @ase) (aQ @Is (aQ @afR @afS))) (aQ (aQ @afT @ar6) (aQ @asi (aQ @ash @asg)))) (aQ (aQ (aQ @ar7 @Pw) (aQ @asd (aQ @asf @asc))) (aQ (aQ @ar9 (aQ @asb @ar_)) (aQ @asa (aQ @ar8 @afM))))) (aQ (aQ (aQ (aQ @afL @PH) (aQ @OU (aQ @OV @OW))) (aQ (aQ @OO @OQ) (aQ @OR (aQ @OS @OM)))) (aQ (aQ (aQ @OT @ON) (aQ @Option.bind_some.{0,0} (aQ @kh @nM))) (aQ (aQ @Pd (aQ @afV @afY)) (aQ @afU (aQ @afX @afW)))))
def ack:=aQ (aQ (aQ (aQ (aQ @List.getElem?_cons_zero.{0} @List.getElem?_cons_succ.{0}) (aQ @List.drop_zero.{0} @List.drop_succ_cons.{0})) (aQ (aQ @List.take_succ_cons.{0} @List.take_zero.{0}) (aQ @List.set_cons_zero.{0} @List.set_cons_succ.{0}))) (aQ (aQ (aQ @List.cons_append.{0} @List.nil_append.{0}) (aQ @List.length_cons.{0} @List.length_nil.{0})) (aQ (aQ @List.all_cons.{0} @List.all_nil.{0}) (aQ @Bool.and_true @Bool.and_self)))) (aQ (aQ (aQ (aQ @Nat.zero_add @Nat.add_zero) (aQ @cW @and_self)) (aQ (aQ @and_true @true_and) (aQ @if_true.{1} @a7))) (aQ (aQ (aQ @NC @NJ) (aQ @NA @NI)) (aQ (aQ @NG @NH) (aQ @NB (aQ @ND @NF)))))
def arU:=aQ (aQ (aQ (aQ (aQ @arh @ark) (aQ @ary (aQ @arc @ard))) (aQ (aQ @are @arf) (aQ @ari (aQ @arj @arl)))) (aQ (aQ (aQ @arn @aro) (aQ @arp (aQ @arq @ars))) (aQ (aQ @art @aru) (aQ @arv (aQ @arw @arx))))) (aQ (aQ (aQ (aQ @arE @arH) (aQ @arT (aQ @arA @arB))) (aQ (aQ @arC @arD) (aQ @arF (aQ @arG @arI)))) (aQ (aQ (aQ @arJ @arK) (aQ @arL (aQ @arM @arN))) (aQ (aQ @arO @arP) (aQ @arQ (aQ @arR @arS)))))
def Dr:=aQ (aQ (aQ @QK (aQ @QV @QM)) (aQ @QS (aQ @QQ @QP))) (aQ (aQ @QO (aQ @QN @QT)) (aQ @QU (aQ @P6 @acu)))
def RB:=aQ (aQ (aQ @af.RA @af.fL) (aQ @af.iJ @af.gm)) (aQ (aQ @af.jP @af.zj) (aQ @af.afQ @af.set_set))
def PS:=aQ @PO @PR
def QJ:=aQ (aQ (aQ (aQ (aQ @Qb @Qc) (aQ @Qd @Qe)) (aQ (aQ @Qf @Qg) (aQ @Qh @Qi))) (aQ (aQ (aQ @Qj @Qk) (aQ @Ql @Qm)) (aQ (aQ @Qn @Qo) (aQ @Qp (aQ @Qq @Qr))))) (aQ (aQ (aQ (aQ @Qs @Qt) (aQ @Qu @Qv)) (aQ (aQ @Qw @Qx) (aQ @Qy @Qz))) (aQ (aQ (aQ @QA @QB) (aQ @QC @QD)) (aQ (aQ @QE @QF) (aQ @QG (aQ @QH @QI)))))
def Rw:=aQ (aQ (aQ (aQ (aQ @QY @QZ) (aQ @Q0 @Q1)) (aQ (aQ @Q2 @Q3) (aQ @Q4 @Q5))) (aQ (aQ (aQ @Q6 @Q7) (aQ @Q8 @Q9)) (aQ (aQ @Q_ @Ra) (aQ @Rb (aQ @Rc @Re))))) (aQ (aQ (aQ (aQ @Rf @Rg) (aQ @Rh @Ri)) (aQ (aQ @Rj @Rk) (aQ @Rl @Rm))) (aQ (aQ (aQ @Rn @Ro) (aQ @Rp @Rq)) (aQ (aQ @Rr @Rs) (aQ @Rt (aQ @Ru @Rv)))))
def acj:=aQ (aQ (aQ (aQ @aci @abZ) (aQ @ab0 @ab1)) (aQ (aQ @ab2 @ab3) (aQ @ab4 (aQ @ab5 @ab6)))) (aQ (aQ (aQ @ab7 @ab8) (aQ @ab9 (aQ @ab_ @aca))) (aQ (aQ @acb @acd) (aQ @acf (aQ @acg @ach))))
def RX:=aQ (aQ (aQ @RE @RG) (aQ @RI @RK)) (aQ (aQ @RM @RO) (aQ @RQ (aQ @RT @RV)))
def Dc:=aQ P8 (aQ ack (aQ arU (aQ Dr (aQ RB (aQ PS (aQ QJ (aQ Rw (aQ acj RX))))))))
def Nz:=aQ (aQ (aQ @NC @NJ) (aQ @NA @NI)) (aQ (aQ @NG @NH) (aQ @NB (aQ @ND @NF)))
def I7{p:Prop}(h:p:=by first|assumption|omega|(simp only[Ns];omega)|(simp only[Nz];done)|fail):p:=h
def asq{p:Prop}(h:p:=by first|assumption|omega|(simp only[Ns];omega)|(simp only[Nz];done)|(simp only[List.length_append,List.length_cons,List.length_nil];omega)|fail):p:=h
def P1:(∀cs,(aa.agg cs).cells=cs)/\(∀b,(aa.bool b).cells=[Z b])/\(∀k n,(aa.int k n).cells=[.int k n])/\(∀s,(aa.str s).cells=[X s])/\(∀l i c,(aa.ptr l i c).cells=[.ptr l i c])/\aa.fC.cells=[.fC]/\(∀l i n e c,(aa.ag l i n e c).cells=[.ag l i n e c])/\aa.ao.cells=[.ao]/\(∀f a b,(aa.func f a b).cells=[.func f a b])/\aa.nilFunc.cells=[.nilFunc]/\aa.nilIface.cells=[.nilIface]:=
 ⟨λ_=>rfl,λ_=>rfl,λ_ _=>rfl,λ_=>rfl,λ_ _ _=>rfl,rfl,λ_ _ _ _ _=>rfl,rfl,λ_ _ _=>rfl,rfl,rfl⟩
def asn:=aQ @a1.eq_1 (aQ @fD.eq_1 (aQ @ah.eq_1 (aQ @aC.eq_1 (aQ P1 Dc))))
