/-
  Texts of one proof, laid together: L2 L3 L4 ShL A1.
-/
import Derived.Test.YtghmbpmaafnodaaGreatDoorMO
import Derived.Test.YtghmbpmaafnodaaGreatDoorMD
import Derived.Test.YtghmbpmaafnodaaGreatDoorMG
set_option linter.unusedVariables false
set_option linter.unusedSimpArgs false
namespace Go.Proofs.YtghmbpmaafnodaaGreatDoor
open Go.f7
open Nat (reduceAdd reduceLeDiff)
section
theorem QJ{H:J}{s:bk}(aO:s.length<=1000000000000000000)(N:Nat): ∀(rest:bk) (n m:Nat),s.drop n=rest->n<=s.length->rest.length<m->
  W (xo (au P ao) N m (.str s) (.int .i64 n) H) λv H'=>v= .bool (vJ rest)/\H'=H
 |_,_,0,_,_,hm=>Z
 |[],n,m+1,h,aV,hm=>by
  have:=drop_nil h;have U: ¬((n:Int)<(s.length:Int)):=Z;simp-implicitDefEqProofs(disch:=try exact ag) only[xo,mG,oY,oM,reduceAdd,reduceLeDiff,reduceIte,az,U,decide_false];exact a8.2 ⟨by simp[vJ],rfl⟩
 |c::r,n,m+1,h,aV,hm=>by
  obtain⟨aI,bc,dm,eS⟩:=drop_cons h;have U:((n:Int)<(s.length:Int)):=Z;have aT:=QJ (H:=H) aO N r (n+1) m bc Z (by simp at hm;omega);have ha:=pk aI;simp-implicitDefEqProofs(disch:=try exact ag) only[xo,mG,oY,oM,reduceAdd,reduceLeDiff,reduceIte,az,U,decide_true,ha];refine lz (Bj _) ?_;cases ax:lg (c.toNat:Int) with
  |true=>
   simp-implicitDefEqProofs(disch:=try exact ag) only[mG,oY,oM,bj,bO,ei,Bool.not_true,mv];refine aT.mono ?_;rintro v H' ⟨rfl,e⟩;exact⟨by simp[vJ,gR,ax],e⟩
  |false=>
   simp-implicitDefEqProofs(disch:=try exact ag) only[mG,oY,oM,reduceAdd,reduceLeDiff,reduceIte,az,Bool.not_false,ha];refine rC (J7 _) ?_;cases bb:ox (c.toNat:Int) with
   |true=>
    simp-implicitDefEqProofs(disch:=try exact ag) only[mG,oY,oM,bj,bO,ei,Bool.not_true,mv];refine aT.mono ?_;rintro v H' ⟨rfl,e⟩;exact⟨by simp[vJ,gF,bb],e⟩
   |false=>
    simp-implicitDefEqProofs(disch:=try exact ag) only[mG,oY,oM,bj,bO,ei,Bool.not_false];exact a8.2 ⟨by simp[vJ,gR,gF,ax,bb],rfl⟩
theorem adt{H:J}{s:bk}(aO:s.length<=1000000000000000000):W (au P ao 79 [.str s] H) λv H'=>v= .bool (iz s)/\aR H H':=by
 refine cU (λ_=>amF (s.length+1)) ?_;cases ax:s with
 |nil=>
  have U:((([]:bk).length:Nat):Int)<1:=by simp
  simp-implicitDefEqProofs(disch:=try exact ag) only[mG,oY,oM,bj,bO,fE,ei,U,decide_true];exact a8.2 ⟨by simp[iz],.refl _⟩
 |cons c r=>
  rw[<-ax];have oC:1<=s.length:=by rw[ax];simp
  have U: ¬((s.length:Int)<1):=Z;have nT:s[0]? =some c:=by rw[ax];rfl
  have aoz:=Hp nT;have bW:s.headD 0=c:=by rw[ax];rfl
  by_cases bn:(8:Int)<(s.length:Int)
  ·have M9: ¬s.length<=8:=Z;simp-implicitDefEqProofs(disch:=try exact ag) only[mG,oY,oM,bj,bO,fE,ei,U,bn,decide_true,decide_false];exact a8.2 ⟨by simp[iz,M9],.refl _⟩
  ·have M9:s.length<=8:=Z;simp-implicitDefEqProofs(disch:=try exact ag) only[mG,oY,oM,bj,bO,fE,ei,U,bn,decide_false,aoz];refine rC (Bj _) ?_;cases aS:lg (c.toNat:Int) with
   |false=>
    simp-implicitDefEqProofs(disch:=try exact ag) only[mG,oY,oM,bj,bO,Bool.not_false];exact a8.2 ⟨by unfold iz;rw[bW];simp[gR,aS],.refl _⟩
   |true=>
    simp-implicitDefEqProofs(disch:=try exact ag) only[mG,oY,oM,bj,bO,Bool.not_true];refine hh (QL s) ?_;rintro _ bl ⟨rfl,aJ⟩;refine⟨aJ.1,?_⟩;cases hw:rW s with
    |true=>
     simp-implicitDefEqProofs(disch:=try exact ag) only[mG,oY,oM,bj,bO];exact a8.2 ⟨by simp[iz,hw],aJ⟩
    |false=>
     simp-implicitDefEqProofs(disch:=try exact ag) only[mG,oM,bj,bO];refine(QJ (H:=bl) aO (s.length+1) s 0 (s.length+1) rfl Z Z).mono ?_;rintro v H' ⟨rfl,e⟩;exact⟨by unfold iz;rw[bW];simp[oC,M9,gR,aS,hw],by rw[e];exact aJ⟩
theorem W6(n:Int):Cb P 5 3 (.int .u8 n)=some (.int .i64 (IntKind.i64.wrap n)):=ad
theorem XA(t:Bool)(a:Int):aZ P .quo 3 t (.int .i64 a) (.int .i64 10)=some (.int .i64 (IntKind.i64.wrap (a.tdiv 10))):=by simp[aZ,pQ]
theorem an_(t:Bool)(a b:Int):aZ P .mul 3 t (.int .i64 a) (.int .i64 b)=some (.int .i64 (IntKind.i64.wrap (a*b))):=afG _ _ _ _ _
theorem wrap_u8{n:Int}(a6:0<=n)(U:n<=255):IntKind.u8.wrap n=n:=by
 show n%256=n;omega
theorem QD{H:J}{s:bk}(aO:s.length<=1000000000000000000)(N:Nat): ∀(rest:bk) (n m:Nat) (acc:Int),s.drop n=rest->n<=s.length->rest.length<m->0<=acc->acc<=9223372036854775807->(∀c∈rest,gF c=true)->
  W (vv (au P ao) N m (.str s) (.int .i64 acc) (.int .i64 n) H) λv H'=>v=(match kH acc rest with|some z=> .tuple [.int .i64 z,.bool true]|none=> .tuple [.int .i64 0,.bool false])/\H'=H
 |_,_,0,_,_,_,hm,_,_,_=>Z
 |[],n,m+1,acc,h,aV,hm,b1,ao0,bb=>by
  have:=drop_nil h;have U: ¬((n:Int)<(s.length:Int)):=Z;simp-implicitDefEqProofs(disch:=try exact ag) only[vv,xp,B7,AL,reduceAdd,reduceLeDiff,reduceIte,az,U,decide_false];exact a8.2 ⟨by simp[kH],rfl⟩
 |c::r,n,m+1,acc,h,aV,hm,b1,ao0,bb=>by
  obtain⟨aI,bc,dm,eS⟩:=drop_cons h;have U:((n:Int)<(s.length:Int)):=Z;have ha:=pk aI;have aS:=bb c (by simp);simp only[gF,ox,Bool.and_eq_true,decide_eq_true_eq] at aS;have e8:IntKind.u8.wrap ((c.toNat:Int)-48)=(c.toNat:Int)-48:=wrap_u8 Z Z;have fT:IntKind.i64.wrap ((c.toNat:Int)-48)=(c.toNat:Int)-48:=wrap_i64 Z Z;have nY:IntKind.i64.wrap (9223372036854775807-((c.toNat:Int)-48))=9223372036854775807-((c.toNat:Int)-48):=wrap_i64 Z Z;have u0:(9223372036854775807-((c.toNat:Int)-48)).tdiv 10=(9223372036854775807-((c.toNat:Int)-48))/10:=Int.tdiv_eq_ediv_of_nonneg Z;have aaa:IntKind.i64.wrap ((9223372036854775807-((c.toNat:Int)-48))/10)=(9223372036854775807-((c.toNat:Int)-48))/10:=wrap_i64 Z Z
  by_cases aX:(9223372036854775807-((c.toNat:Int)-48))/10<acc
  ·simp-implicitDefEqProofs(disch:=try exact ag) only[vv,xp,B7,AL,reduceAdd,reduceLeDiff,reduceIte,az,U,decide_true,ha,e8,fT,nY,u0,aaa,XA,Me,W6,aX];exact a8.2 ⟨by simp[kH,aX],rfl⟩
  ·have aqs:IntKind.i64.wrap (10*acc)=10*acc:=wrap_i64 Z Z;have aqt:IntKind.i64.wrap (10*acc+((c.toNat:Int)-48))=10*acc+((c.toNat:Int)-48):=wrap_i64 Z Z;have aT:=QD (H:=H) aO N r (n+1) m (10*acc+((c.toNat:Int)-48)) bc Z (by simp at hm;omega) Z Z (λc aS=>bb c (by simp[aS]));simp-implicitDefEqProofs(disch:=try exact ag) only[vv,xp,B7,AL,reduceAdd,reduceLeDiff,reduceIte,az,U,decide_true,ha,e8,fT,nY,u0,aaa,aqs,aqt,XA,an_,Me,W6,aX,decide_false,mv];refine aT.mono ?_;rintro v H' ⟨rfl,e⟩;exact⟨by rw[kH,if_neg aX],e⟩
theorem Sw: ∀(s:bk),∀c∈s.take (runN true s),gF c=true
 |[],c,h=>by simp[runN] at h
 |x::r,c,h=>by
  rw[runN] at h;cases af:gF x with
  |true=>
   simp only[af,Bool.true_or,bx,List.take_succ_cons,List.mem_cons] at h;rcases h with rfl|h
   ·exact af
   ·exact Sw r c h
  |false=>simp[af] at h
theorem abN{H:J}{s:bk}(aO:s.length<=1000000000000000000)(bb: ∀c∈s,gF c=true):W (au P ao 81 [.str s] H) λv H'=>v=(match kH 0 s with|some z=> .tuple [.int .i64 z,.bool true]|none=> .tuple [.int .i64 0,.bool false])/\H'=H:=by
 refine cU (λ_=>amH (s.length+1)) ?_;rw[AL];exact QD aO (s.length+1) s 0 (s.length+1) 0 rfl Z Z Z Z bb
theorem H5:P.underlying 9=some .string:=ad
theorem FQ{s:List UInt8}{a b:Nat}(U:a<=b)(aa:b<=s.length):kh P 9 (.str s) (some (.int .i64 (a:Int))) (some (.int .i64 (b:Int))) none=some (.str ((s.drop a).take (b-a))):=by
 have aI:hz (some (.int .i64 (b:Int))) s.length s.length=some b:=by simp[hz];omega
 have bc:hz (some (.int .i64 (a:Int))) 0 b=some a:=by simp[hz];omega
 simp only[kh,H5,aI,bc]
theorem Rb{H:J}{s:bk}{at_:Nat}{c:UInt8}(aS:s[at_]? =some c)(N:Nat): ∀(rest:bk) (j m:Nat),mc.drop j=rest->j<=18->rest.length<m->
  W (vw (au P ao) N m (.str s) (.int .i64 at_) (.str mc) (.int .i64 j) H) λv H'=>v= .str (bif o6 c rest then[c] else[])/\H'=H
 |_,_,0,_,_,hm=>Z
 |[],j,m+1,h,bP,hm=>by
  have:=drop_nil h;have ax:mc.length=18:=rfl;have U: ¬((j:Int)<(mc.length:Int)):=Z;simp-implicitDefEqProofs(disch:=try exact ag) only[vw,rJ,B8,uc,ub,ua,tj,reduceAdd,reduceLeDiff,reduceIte,az,U,decide_false];exact a8.2 ⟨by simp[o6],rfl⟩
 |y::r,j,m+1,h,bP,hm=>by
  obtain⟨aI,bc,dm,eS⟩:=drop_cons h;have ax:mc.length=18:=rfl;have U:((j:Int)<(mc.length:Int)):=Z;have ha:=pk aI;have oH:=pk aS;have aT:=Rb (H:=H) aS N r (j+1) m bc Z (by simp at hm;omega);have fe:=FQ (s:=mc) (a:=j) (b:=j+1) Z Z;have gT:(mc.drop j).take (j+1-j)=[y]:=by rw[h,Nat.add_sub_cancel_left];rfl
  rw[gT] at fe;cases he:((c.toNat:Int)==(y.toNat:Int)) with
  |true=>
   have Ik:c=y:=by
    have:(c.toNat:Int)=(y.toNat:Int):=by simpa using he
    exact UInt8.toNat_inj.1 Z
   have fQ:(c.toNat==y.toNat)=true:=by rw[Ik];simp
   simp-implicitDefEqProofs(disch:=try exact ag) only[vw,rJ,B8,uc,ub,ua,tj,reduceAdd,reduceLeDiff,reduceIte,az,U,decide_true,ha,oH,he,mv,fe];exact a8.2 ⟨by simp[o6,fQ,Ik],rfl⟩
  |false=>
   have fQ:(c.toNat==y.toNat)=false:=by
    have: ¬(c.toNat:Int)=(y.toNat:Int):=by simpa using he
    simp;omega
   simp-implicitDefEqProofs(disch:=try exact ag) only[vw,rJ,B8,uc,ub,ua,tj,reduceAdd,reduceLeDiff,reduceIte,az,U,decide_true,ha,oH,he,mv];refine aT.mono ?_;rintro v H' ⟨rfl,e⟩;exact⟨by simp[o6,fQ],e⟩
theorem adT{H:J}{s:bk}{at_:Nat}{c:UInt8}(aS:s[at_]? =some c){N:Nat}(dX:18<N):W (uc (au P ao) N (.str s) (.int .i64 at_) H) λv H'=>v= .str (bif o6 c mc then[c] else[])/\H'=H:=by
 rw[uc];exact Rb aS N mc 0 N rfl Z (by simp[mc];omega)
theorem SD{H:J}{s:bk}(aO:s.length<=1000000000000000000){at_:Nat}{c:UInt8}{r:bk}(bb:s.drop at_=c::r){l:Nat}{N:Nat}(dX:18<N)(aX:H.get l=some (.row false 1 (o2.map λy=>[I.str y]))): ∀(rest pre:List bk),o2=pre++rest-> ∀(m:Nat),rest.length<m->
  W (ud (au P ao) N m (.str s) (.int .i64 at_) (.aM l 0 5 1 (some 5)) (.int .i64 pre.length) H) λv H'=>v= .str (bif decide (2<=(s.drop at_).length)&&lj ((s.drop at_).take 2) rest then(s.drop at_).take 2 else bif o6 c mc then[c] else[])/\H'=H
 |_,_,_,0,hm=>Z
 |[],pre,bA,m+1,hm=>by
  have ax:pre.length=5:=by have:=congrArg List.length bA;simpa [o2] using this.symm
  have U: ¬((pre.length:Int)<((5:Nat):Int)):=Z;obtain⟨aI,bc,dm,eS⟩:=drop_cons bb;simp-implicitDefEqProofs(disch:=try exact ag) only[ud,rJ,ub,ua,tj,reduceAdd,reduceLeDiff,reduceIte,az,U,decide_false];refine(adT aI dX).mono ?_;rintro v H' ⟨rfl,e⟩;exact⟨by simp[lj],e⟩
 |y::dQ,pre,bA,m+1,hm=>by
  obtain⟨aI,bc,dm,eS⟩:=drop_cons bb;have ax:pre.length+(dQ.length+1)=5:=by have:=congrArg List.length bA;simpa [o2] using this.symm
  have U:((pre.length:Int)<((5:Nat):Int)):=Z;have a6:(0:Int)<=(pre.length:Int):=Z;have t1:((pre.length:Int)).toNat=pre.length:=Z;have he:(o2.map λy=>[I.str y])[pre.length]? =some [I.str y]:=by rw[bA];simp
  have hw:((pre++[y]).length:Int)=((pre.length+1:Nat):Int):=by simp
  have aT:=SD (H:=H) aO bb dX aX dQ (pre++[y]) (by simp[bA]) m (by simp at hm;omega);rw[hw] at aT;have Il:(s.drop at_).length=s.length-at_:=by simp
  have AM:IntKind.i64.wrap ((s.length:Int)-(at_:Int))=((s.length-at_:Nat):Int):=ZO s.length at_ Z Z;have Fe:=J.aW aX;by_cases aa:(2:Int)<=((s.length-at_:Nat):Int)
  ·have hb:decide (2<=(s.drop at_).length)=true:=by rw[Il];simp;omega
   have fe:=FQ (s:=s) (a:=at_) (b:=at_+2) Z Z;rw[Nat.add_sub_cancel_left] at fe;cases aS:((s.drop at_).take 2==y) with
   |true=>
    have cR:(s.drop at_).take 2=y:=by simpa using aS
    have NH:(y==(s.drop at_).take 2)=true:=by rw[cR];simp
    simp-implicitDefEqProofs(disch:=try exact ag) only[ud,rJ,ub,ua,tj,reduceAdd,reduceLeDiff,reduceIte,az,U,decide_true,AM,aa,Ja,fe,aX,he,t1,aS];exact a8.2 ⟨by rw[lj,hb,NH];rw[cR];rfl,rfl⟩
   |false=>
    have NH:(y==(s.drop at_).take 2)=false:=by
     have: ¬(s.drop at_).take 2=y:=by simpa using aS
     simp;exact λe=>this e.symm
    simp-implicitDefEqProofs(disch:=try exact ag) only[ud,rJ,ub,ua,tj,reduceAdd,reduceLeDiff,reduceIte,az,U,decide_true,AM,aa,Ja,fe,aX,he,t1,aS,mv];refine aT.mono ?_;rintro v H' ⟨rfl,e⟩;exact⟨by simp only[lj,NH,Bool.false_or],e⟩
  ·have hb:decide (2<=(s.drop at_).length)=false:=by rw[Il];simp;omega
   simp-implicitDefEqProofs(disch:=try exact ag) only[ud,rJ,ub,ua,tj,reduceAdd,reduceLeDiff,reduceIte,az,U,decide_true,AM,aa,decide_false,mv];refine aT.mono ?_;rintro v H' ⟨rfl,e⟩;exact⟨by simp only[hb,Bool.false_and],e⟩
theorem aff{H:J}{s:bk}(aO:s.length<=1000000000000000000){at_:Nat}(b1:at_<s.length):W (au P ao 82 [.str s,.int .i64 at_] H) λv H'=>v= .str (lh (s.drop at_))/\aR H H':=by
 refine cU (λ_=>amI 30) ?_;obtain⟨c,r,bb⟩: ∃c r,s.drop at_=c::r:=by
  cases h:s.drop at_ with
  |nil=>have:=drop_nil h;omega
  |cons c r=>exact⟨c,r,rfl⟩
 rw[tj];simp only[yF];rw[ua];refine(SD (H:=H.push _) aO bb Z (J.ca _ _) o2 [] rfl 30 cl).mono ?_;rintro v H' ⟨rfl,rfl⟩;refine⟨?_,aR.push _ _⟩;rw[bb];rfl
theorem Sr{H:J}{s:bk}(aO:s.length<=1000000000000000000)(bE:I->I->J->O)(N:Nat)(Q:I->J->Prop): ∀(rest:bk) (at_ m:Nat),s.drop at_=rest->at_<=s.length->rest.length<m->
  (∀(k:Nat),(∀c' hH,rest=c'::hH->c'.toNat≠10->0<k)->at_+k<=s.length->(s.drop (at_+k)).length<=rest.length->k+dY false (s.drop (at_+k))=dY true rest->W (bE (.str s) (.int .i64 ((at_+k:Nat):Int)) H) Q)->
  W (vr (au P ao) N bE m (.str s) (.int .i64 at_) H) Q
 |_,_,0,_,_,hm,_=>Z
 |[],at_,m+1,h,b1,hm,ah=>by
  have:=drop_nil h;have U: ¬((at_:Int)<(s.length:Int)):=Z;simp-implicitDefEqProofs(disch:=try exact ag) only[vr,ns,B5,po,reduceAdd,reduceLeDiff,reduceIte,az,U,decide_false];exact ah 0 (λ_ _ e=>by cases e) b1 (by simpa using congrArg List.length h) (by simp[h,dY])
 |c::r,at_,m+1,h,b1,hm,ah=>by
  obtain⟨aI,bc,dm,eS⟩:=drop_cons h;have U:((at_:Int)<(s.length:Int)):=Z;have ha:=pk aI;cases aS:((c.toNat:Int) != 10) with
  |false=>
   have oH:c.toNat=10:=by
    have:(c.toNat:Int)=10:=by simpa using aS
    omega
   simp-implicitDefEqProofs(disch:=try exact ag) only[vr,ns,B5,po,reduceAdd,reduceLeDiff,reduceIte,az,U,decide_true,ha,aS];refine ah 0 (λ_ _ e aV=>by cases e;exact absurd oH aV) b1 (by simp only[Nat.add_zero,h];omega) ?_;simp[h,dY,n4,oH]
  |true=>
   have oH:(c.toNat==10)=false:=by
    have: ¬(c.toNat:Int)=10:=by simpa using aS
    simp;omega
   simp-implicitDefEqProofs(disch:=try exact ag) only[vr,ns,B5,po,reduceAdd,reduceLeDiff,reduceIte,az,U,decide_true,ha,aS,mv];refine Sr aO bE N Q r (at_+1) m bc Z (by simp at hm;omega) (λk _ U aa ae=> ?_);have apf:at_+1+k=at_+(k+1):=Z;rw[apf] at U aa ae ⊢;refine ah (k+1) (λ_ _ _ _=>Z) U (by simp only[List.length_cons];omega) ?_;simp only[dY,oH,bi];omega
theorem J5{H:J}{s:bk}(aO:s.length<=1000000000000000000)(N:Nat)(dX:s.length<N): ∀(q:Nat) (rest:bk) (at_ m:Nat),rest.length<=q->s.drop at_=rest->at_<=s.length->rest.length<m->
  W (ou (au P ao) N m (.str s) (.int .i64 at_) H) λv H'=>v= .int .i64 ((at_+dY false rest:Nat):Int)/\H'=H
 |_,_,_,0,_,_,_,hm=>Z
 |_,[],at_,m+1,_,h,b1,hm=>by
  have:=drop_nil h;have U: ¬((at_:Int)<(s.length:Int)):=Z;simp-implicitDefEqProofs(disch:=try exact ag) only[ou,ns,sJ,po,reduceAdd,reduceLeDiff,reduceIte,az,U,decide_false];exact a8.2 ⟨by simp[dY],rfl⟩
 |0,c::r,at_,m+1,bg,h,b1,hm=>by simp at bg
 |q+1,c::r,at_,m+1,bg,h,b1,hm=>by
  obtain⟨aI,bc,dm,eS⟩:=drop_cons h;have U:((at_:Int)<(s.length:Int)):=Z;have ha:=pk aI;simp only[List.length_cons] at bg hm;have Iu:n4 c=true->W (ou (au P ao) N m (.str s) (.int .i64 ((at_+1:Nat):Int)) H) λv H'=>v= .int .i64 ((at_+dY false (c::r):Nat):Int)/\H'=H:=by
   intro ay;refine(J5 (H:=H) aO N dX q r (at_+1) m Z bc Z Z).mono ?_;rintro v H' ⟨rfl,e⟩;have cC:at_+1+dY false r=at_+dY false (c::r):=by
    rw[dY,ay,bx];omega
   exact⟨by rw[cC],e⟩
  have AD:((c.toNat:Int)==32)=(c.toNat==32):=by rw[Bool.eq_iff_iff];simp;omega
  have so:((c.toNat:Int)==9)=(c.toNat==9):=by rw[Bool.eq_iff_iff];simp;omega
  have wt:((c.toNat:Int)==10)=(c.toNat==10):=by rw[Bool.eq_iff_iff];simp;omega
  have IC:((c.toNat:Int)==13)=(c.toNat==13):=by rw[Bool.eq_iff_iff];simp;omega
  cases v7:c.toNat==32 with
  |true=>
   simp-implicitDefEqProofs(disch:=try exact ag) only[ou,ns,sJ,po,reduceAdd,reduceLeDiff,reduceIte,az,U,decide_true,ha,AD,v7,mv];exact Iu (by simp only[n4,v7,Bool.true_or])
  |false=>
   cases c9:c.toNat==9 with
   |true=>
    simp-implicitDefEqProofs(disch:=try exact ag) only[ou,ns,sJ,po,reduceAdd,reduceLeDiff,reduceIte,az,U,decide_true,ha,AD,v7,so,c9,mv];exact Iu (by simp only[n4,c9,Bool.true_or,Bool.or_true])
   |false=>
    cases Ak:c.toNat==10 with
    |true=>
     simp-implicitDefEqProofs(disch:=try exact ag) only[ou,ns,sJ,po,reduceAdd,reduceLeDiff,reduceIte,az,U,decide_true,ha,AD,v7,so,c9,wt,Ak,mv];exact Iu (by simp only[n4,Ak,Bool.true_or,Bool.or_true])
    |false=>
     cases CO:c.toNat==13 with
     |true=>
      simp-implicitDefEqProofs(disch:=try exact ag) only[ou,ns,sJ,po,reduceAdd,reduceLeDiff,reduceIte,az,U,decide_true,ha,AD,v7,so,c9,wt,Ak,IC,CO,mv];exact Iu (by simp only[n4,CO,Bool.or_true])
     |false=>
      have apm:n4 c=false:=by simp only[n4,v7,c9,Ak,CO,Bool.or_self]
      have AM:IntKind.i64.wrap ((s.length:Int)-(at_:Int))=((s.length-at_:Nat):Int):=ZO s.length at_ Z Z;have ja:(c==47&&r.head?==some 47)=false->dY false (c::r)=0:=λbW=>by rw[dY,apm,bi,bW,bi]
      by_cases aa:(2:Int)<=((s.length-at_:Nat):Int)
      ·have fe:=FQ (s:=s) (a:=at_) (b:=at_+2) Z Z;rw[Nat.add_sub_cancel_left,h] at fe;obtain⟨y,dQ,rfl⟩: ∃y dQ,r=y::dQ:=by
        cases r with
        |nil=>simp at eS;omega
        |cons y dQ=>exact⟨y,dQ,rfl⟩
       simp only[List.take_succ_cons,List.take_zero] at fe;cases a7:(([c,y]:bk)==[47,47]) with
       |true=>
        have Ik:c=47/\y=47:=by simpa using a7
        obtain⟨rfl,rfl⟩:=Ik;simp-implicitDefEqProofs(disch:=try exact ag) only[ou,ns,sJ,po,reduceAdd,reduceLeDiff,reduceIte,az,U,decide_true,ha,AD,v7,so,c9,wt,Ak,IC,CO,AM,aa,Ja,fe,a7];refine Sr aO (ou (au P ao) N m) N _ (47::47::dQ) at_ N h b1 (by simp only[List.length_cons] at eS ⊢;omega) (λk aql cS dq dP=> ?_);have iS:=aql 47 _ rfl cl;have hle:(s.drop (at_+k)).length<=q:=by
         simp only[List.length_drop,List.length_cons] at bg eS ⊢;omega
        refine(J5 (H:=H) aO N dX q (s.drop (at_+k)) (at_+k) m hle rfl cS (by simp only[List.length_drop,List.length_cons] at hm eS ⊢;omega)).mono ?_;rintro v H' ⟨rfl,e⟩;have ay:dY false (47::47::dQ)=dY true (47::47::dQ):=by
         have aI:dY false (47::47::dQ)=dY true (47::dQ)+1:=rfl;have bc:dY true (47::47::dQ)=dY true (47::dQ)+1:=rfl;rw[aI,bc]
        refine⟨?_,e⟩;rw[ay,<-dP,Nat.add_assoc]
       |false=>
        have bW:(c==47&&(y::dQ).head?==some 47)=false:=by
         have: ¬(c=47/\y=47):=by simpa using a7
         simpa using this
        simp-implicitDefEqProofs(disch:=try exact ag) only[ou,ns,sJ,po,reduceAdd,reduceLeDiff,reduceIte,az,U,decide_true,ha,AD,v7,so,c9,wt,Ak,IC,CO,AM,aa,Ja,fe,a7];exact a8.2 ⟨by rw[ja bW,Nat.add_zero],rfl⟩
      ·have a7:r=[]:=by
        cases r with
        |nil=>rfl
        |cons y dQ=>simp only[List.length_cons] at eS;omega
       have bW:(c==47&&r.head?==some 47)=false:=by rw[a7];simp
       simp-implicitDefEqProofs(disch:=try exact ag) only[ou,ns,sJ,po,reduceAdd,reduceLeDiff,reduceIte,az,U,decide_true,ha,AD,v7,so,c9,wt,Ak,IC,CO,AM,aa,decide_false];exact a8.2 ⟨by rw[ja bW,Nat.add_zero],rfl⟩
theorem P7{H:J}{s:bk}(aO:s.length<=1000000000000000000){at_:Nat}(b1:at_<=s.length):W (au P ao 57 [.str s,.int .i64 at_] H) λv H'=>v= .int .i64 ((at_+dY false (s.drop at_):Nat):Int)/\H'=H:=by
 refine cU (λ_=>aml (s.length+1)) ?_;rw[po];exact J5 aO (s.length+1) Z s.length (s.drop at_) at_ (s.length+1) (by simp) rfl b1 (by simp;omega)
end
section
theorem LK(k:Int)(x:bk)(p:Int):cM P 57 [(0,.int .i64 k),(1,.str x),(3,.int .i64 p)]=some (.agg [.int .i64 k,.str x,.int .i64 0,.int .i64 p]):=ad
theorem Hl(k:Int)(z:Int)(p:Int):cM P 57 [(0,.int .i64 k),(2,.int .i64 z),(3,.int .i64 p)]=some (.agg [.int .i64 k,.str [],.int .i64 z,.int .i64 p]):=ad
theorem V8(k:Int)(p:Int):cM P 57 [(0,.int .i64 k),(3,.int .i64 p)]=some (.agg [.int .i64 k,.str [],.int .i64 0,.int .i64 p]):=ad
theorem DY(d:Bool): ∀s:bk,runN d s<=s.length
 |[]=>bL _
 |c::r=>by
  rw[runN];have:=DY d r;cases gF c||(!d&&gR c) with
  |true=>simp only[bx,List.length_cons];omega
  |false=>simp only[bi,List.length_cons];omega
def uw(p:Nat):Option (Int×bk×Int×Nat)->I
 |none=> .tuple [.agg [.int .i64 0,.str [],.int .i64 0,.int .i64 0],.int .i64 0]
 |some (k,t,v,m)=> .tuple [.agg [.int .i64 k,.str t,.int .i64 v,.int .i64 p],.int .i64 m]
theorem af1{H:J}{s:bk}(aO:s.length<=1000000000000000000){at_:Nat}(b1:at_<s.length):W (au P ao 58 [.str s,.int .i64 at_] H) λv H'=>v=uw at_ (jM (s.drop at_))/\aR H H':=by
 refine cU (λ_=>amm 0) ?_;obtain⟨c,r,bb⟩: ∃c r,s.drop at_=c::r:=by
  cases h:s.drop at_ with
  |nil=>have:=drop_nil h;omega
  |cons c r=>exact⟨c,r,rfl⟩
 obtain⟨aI,bc,dm,eS⟩:=drop_cons bb;have ha:=pk aI;have aU:=aR.push H (.row false 4 [[.int .i64 0,.str [],.int .i64 0,.int .i64 0]]);have Y_:=λd=>DY d (s.drop at_)
 have Il:(s.drop at_).length=s.length-at_:=by simp
 simp-implicitDefEqProofs(disch:=try exact ag) only[jE,reduceAdd,reduceLeDiff,reduceIte,az,ha];refine lz (Bj _) ?_;cases ax:lg (c.toNat:Int) with
 |true=>
  simp-implicitDefEqProofs(disch:=try exact ag) only[jE,bj,bO];refine lz (Sz aO at_ Z false) ?_;have a7:=Y_ false;have fe:=FQ (s:=s) (a:=at_) (b:=at_+runN false (s.drop at_)) Z Z;rw[Nat.add_sub_cancel_left] at fe;simp-implicitDefEqProofs(disch:=try exact ag) only[jE,bj,bO,ei,sh,fe];refine aY (QL _) ?_;rintro _ bl ⟨rfl,aJ⟩;refine⟨aJ.1,?_⟩;have g2:bl.get H.next=some (.row false 4 [[.int .i64 0,.str [],.int .i64 0,.int .i64 0]]):=aJ.get (J.ca _ _)
  have fB:=J.aW g2;have dL:jM (s.drop at_)=(bif rW ((s.drop at_).take (runN false (s.drop at_))) then some (3,(s.drop at_).take (runN false (s.drop at_)),0,runN false (s.drop at_)) else bif iz ((s.drop at_).take (runN false (s.drop at_))) then some (1,(s.drop at_).take (runN false (s.drop at_)),0,runN false (s.drop at_)) else none):=by
   have io:gR c=true:=ax;simp only[bb,jM,io,bx]
  cases hw:rW ((s.drop at_).take (runN false (s.drop at_))) with
  |true=>
   rw[dL,hw];simp-implicitDefEqProofs(disch:=try exact ag) only[jE,reduceAdd,reduceLeDiff,reduceIte,az,LK,g2];exact a8.2 ⟨rfl,(aU.trans aJ).de (bL _) _⟩
  |false=>
   rw[dL,hw];simp-implicitDefEqProofs(disch:=try exact ag) only[jE,bj,bO];refine aY (adt (by simp only[List.length_take];omega)) ?_;rintro _ cQ ⟨rfl,bz⟩;refine⟨bz.1,?_⟩;have g3:=bz.get g2;have gL:=J.aW g3;cases aV:iz ((s.drop at_).take (runN false (s.drop at_))) with
   |true=>
    simp-implicitDefEqProofs(disch:=try exact ag) only[jE,reduceAdd,reduceLeDiff,reduceIte,az,LK,g3];exact a8.2 ⟨rfl,((aU.trans aJ).trans bz).de (bL _) _⟩
   |false=>
    simp-implicitDefEqProofs(disch:=try exact ag) only[jE,reduceAdd,reduceLeDiff,reduceIte,az,g3];exact a8.2 ⟨rfl,((aU.trans aJ).trans bz).de (bL _) _⟩
 |false=>
  simp-implicitDefEqProofs(disch:=try exact ag) only[jE,bj,bO,ha];refine lz (J7 _) ?_;have io:gR c=false:=ax;have g1:(H.push (.row false 4 [[.int .i64 0,.str [],.int .i64 0,.int .i64 0]])).get H.next=some (.row false 4 [[.int .i64 0,.str [],.int .i64 0,.int .i64 0]]):=J.ca _ _
  cases aX:ox (c.toNat:Int) with
  |true=>
   have gz:gF c=true:=aX;simp-implicitDefEqProofs(disch:=try exact ag) only[jE,bj,bO];refine lz (Sz aO at_ Z true) ?_;have a7:=Y_ true;have fe:=FQ (s:=s) (a:=at_) (b:=at_+runN true (s.drop at_)) Z Z;rw[Nat.add_sub_cancel_left] at fe;simp-implicitDefEqProofs(disch:=try exact ag) only[jE,bj,bO,ei,sh,fe];refine lz (abN (by simp only[List.length_take];omega) (λc aS=>Sw _ c aS)) ?_;have dL:jM (s.drop at_)=(match kH 0 ((s.drop at_).take (runN true (s.drop at_))) with
    |none=>none
    |some v=>bif (decide (1<runN true (s.drop at_))&&c.toNat==48)||(decide (runN true (s.drop at_)<(s.drop at_).length)&&gR (((s.drop at_)[runN true (s.drop at_)]?).getD 0)) then none else some (2,[],v,runN true (s.drop at_))):=by
    simp only[bb,jM,io,gz,bx,bi]<;>rfl
   rw[dL];cases bw:kH 0 ((s.drop at_).take (runN true (s.drop at_))) with
   |none=>
    simp-implicitDefEqProofs(disch:=try exact ag) only[jE,reduceAdd,reduceLeDiff,reduceIte,az,Bool.not_false,g1];exact a8.2 ⟨rfl,aR.push _ _⟩
   |some z=>
    generalize ce:runN true (s.drop at_)=R at*;have cE:decide (1<R)=decide ((1:Int)<(R:Int)):=by rw[decide_eq_decide];omega
    have N2:((c.toNat:Int)==48)=(c.toNat==48):=by rw[Bool.eq_iff_iff];simp;omega
    have cx:decide (R<(s.drop at_).length)=decide (((at_+R:Nat):Int)<(s.length:Int)):=by rw[decide_eq_decide,Il];omega
    rw[cE,cx];simp only
    cases U:decide ((1:Int)<(R:Int)) with
    |true=>
     cases An:c.toNat==48 with
     |true=>
      simp-implicitDefEqProofs(disch:=try exact ag) only[jE,reduceAdd,reduceLeDiff,reduceIte,az,Bool.not_true,U,ha,N2,An,g1];exact a8.2 ⟨rfl,aR.push _ _⟩
     |false=>
      cases aa:decide (((at_+R:Nat):Int)<(s.length:Int)) with
      |false=>
       simp-implicitDefEqProofs(disch:=try exact ag) only[jE,reduceAdd,reduceLeDiff,reduceIte,az,Bool.not_true,U,ha,N2,An,sh,aa,g1,Hl];exact a8.2 ⟨rfl,aR.push _ _⟩
      |true=>
       obtain⟨y,cR⟩: ∃y,s[at_+R]? =some y:=⟨s[at_+R]'(by have:=of_decide_eq_true aa;omega),by simp⟩;have NE:=pk cR;have NF:(s.drop at_)[R]? =some y:=by rw[List.getElem?_drop];exact cR
       simp-implicitDefEqProofs(disch:=try exact ag) only[jE,reduceAdd,reduceLeDiff,reduceIte,az,Bool.not_true,U,ha,N2,An,sh,aa,NE];refine rC (Bj _) ?_;rw[NF];cases AA:lg (y.toNat:Int) with
       |true=>
        have Az:gR y=true:=AA;simp-implicitDefEqProofs(disch:=try exact ag) only[jE,reduceAdd,reduceLeDiff,reduceIte,az,g1,Option.getD_some,Az];exact a8.2 ⟨rfl,aR.push _ _⟩
       |false=>
        have Az:gR y=false:=AA;simp-implicitDefEqProofs(disch:=try exact ag) only[jE,reduceAdd,reduceLeDiff,reduceIte,az,g1,Hl,Option.getD_some,Az];exact a8.2 ⟨rfl,aR.push _ _⟩
    |false=>
     cases aa:decide (((at_+R:Nat):Int)<(s.length:Int)) with
     |false=>
      simp-implicitDefEqProofs(disch:=try exact ag) only[jE,reduceAdd,reduceLeDiff,reduceIte,az,Bool.not_true,U,sh,aa,g1,Hl];exact a8.2 ⟨rfl,aR.push _ _⟩
     |true=>
      obtain⟨y,cR⟩: ∃y,s[at_+R]? =some y:=⟨s[at_+R]'(by have:=of_decide_eq_true aa;omega),by simp⟩;have NE:=pk cR;have NF:(s.drop at_)[R]? =some y:=by rw[List.getElem?_drop];exact cR
      simp-implicitDefEqProofs(disch:=try exact ag) only[jE,reduceAdd,reduceLeDiff,reduceIte,az,Bool.not_true,U,sh,aa,NE];refine rC (Bj _) ?_;rw[NF];cases AA:lg (y.toNat:Int) with
      |true=>
       have Az:gR y=true:=AA;simp-implicitDefEqProofs(disch:=try exact ag) only[jE,reduceAdd,reduceLeDiff,reduceIte,az,g1,Option.getD_some,Az];exact a8.2 ⟨rfl,aR.push _ _⟩
      |false=>
       have Az:gR y=false:=AA;simp-implicitDefEqProofs(disch:=try exact ag) only[jE,reduceAdd,reduceLeDiff,reduceIte,az,g1,Hl,Option.getD_some,Az];exact a8.2 ⟨rfl,aR.push _ _⟩
  |false=>
   have gz:gF c=false:=aX;simp-implicitDefEqProofs(disch:=try exact ag) only[jE,bj,bO];refine aY (aff aO b1) ?_;rintro _ bl ⟨rfl,aJ⟩;refine⟨aJ.1,?_⟩;have g2:bl.get H.next=some (.row false 4 [[.int .i64 0,.str [],.int .i64 0,.int .i64 0]]):=aJ.get (J.ca _ _)
   have fB:=J.aW g2;have dL:jM (s.drop at_)=(bif lh (s.drop at_)==[] then none else some (4,lh (s.drop at_),0,(lh (s.drop at_)).length)):=by
    simp only[bb,jM,io,gz,bi]
   rw[dL];cases Za:lh (s.drop at_)==[] with
   |true=>
    simp-implicitDefEqProofs(disch:=try exact ag) only[jE,reduceAdd,reduceLeDiff,reduceIte,az,Za,g2];exact a8.2 ⟨rfl,(aU.trans aJ).de (bL _) _⟩
   |false=>
    simp-implicitDefEqProofs(disch:=try exact ag) only[jE,reduceAdd,reduceLeDiff,reduceIte,az,Za,g2,LK];exact a8.2 ⟨rfl,(aU.trans aJ).de (bL _) _⟩
theorem He(l:Nat)(t:Tok):dH P l 50 1 [(0,t.v)]=some (.aM l 0 1 4 (some 1),.row false 4 [t.cells]):=by
 obtain⟨k,x,n,p⟩:=t;kernel_rfl
theorem X3:P.underlying 50=some (.slice 57):=ad
theorem W4:rA P 57=some 40:=ad
theorem W3:jZ P 57=some (.agg [.int .i64 0,.str [],.int .i64 0,.int .i64 0]):=ad
theorem afq{H:J}{L:Nat}{cs:List I}{cap:Option Nat}{ro:Bool}(aX:H.get L=some (.row ro 4 [cs])):fM P H [50,50] .an (.aM L 0 1 4 cap)=some (.aM H.next 0 1 4 none,H.push (.row false 4 [cs])):=by
 simp[fM,X3,H4,W4,W3,sL,p4,aX,I.cells]
theorem agA{H:J}{L l n:Nat}{cs:List I}{els:List (List I)}{cap:Option Nat}{ro:Bool}(aX:H.get L=some (.row ro 4 [cs]))(ax:H.get l=some (.row false 4 els))(aV:els.length=n)(ay:n<=1000000000):fM P H [50,50] (.aM l 0 n 4 none) (.aM L 0 1 4 cap)=some (.aM H.next 0 (n+1) 4 none,(H.set l .dead).push (.row false 4 (els++[cs]))):=by
 have U:(n+1)*40<=140737488355328:=Z;have aa:n+1<=9223372036854775807:=Z;simp[fM,X3,H4,W4,W3,sL,p4,aX,ax,I.cells,aV,U,aa];rw[List.take_of_length_le Z]
def vY(H0 H:J)(v:I)(T:List Tok):Prop:=(v= .an/\T=[])\/ ∃l,v= .aM l 0 T.length 4 none/\H0.next<=l/\H.get l=some (.row false 4 (T.map Tok.cells))
theorem vY.tok{H0 H:J}{v:I}{T:List Tok}(h:vY H0 H v T):h9 H v T:=by
 rcases h with h|⟨l,rfl,_,aa⟩
 ·exact .inl h
 ·refine .inr ⟨l,0,none,rfl,.inr ⟨false,_,aa,λk t ah=> ?_⟩⟩;simp[ah]
theorem vY.aK{H0 H H':J}{v:I}{T:List Tok}(h:vY H0 H v T)(p:aR H H'):vY H0 H' v T:=by
 rcases h with h|⟨l,e,U,aa⟩
 ·exact .inl h
 ·exact .inr ⟨l,e,U,p.get aa⟩
theorem GR{H0 H:J}{v:I}{T:List Tok}(h:vY H0 H v T)(p:aR H0 H)(aH:T.length<=1000000)(t:Tok): ∃dr H',fM P (H.push (.row false 4 [t.cells])) [50,50] v (.aM H.next 0 1 4 (some 1))=some (dr,H')/\vY H0 H' dr (T++[t])/\aR H0 H'/\(H.push (.row false 4 [t.cells])).next<=H'.next/\(∀l,l<H.next->(∀e,v≠ .aM l 0 T.length 4 e)->H'.get l=H.get l):=by
 have aX:(H.push (.row false 4 [t.cells])).get H.next=some (.row false 4 [t.cells]):=J.ca _ _
 rcases h with⟨rfl,rfl⟩|⟨l,rfl,U,aa⟩
 ·refine⟨_,_,afq aX,.inr ⟨_,rfl,?_,?_⟩,(p.bV _).bV _,by simp,λl ax _=> ?_⟩
  ·have:=p.1;simp only[J.b6];omega
  ·exact J.ca (H.push (.row false 4 [t.cells])) _
  ·rw[J.gy (by simp only[J.b6];omega),J.gy Z]
 ·have ax:=J.aW aa;have hb:(H.push (.row false 4 [t.cells])).get l=some (.row false 4 (T.map Tok.cells)):=by rw[J.gy Z];exact aa
  refine⟨_,_,agA aX hb (by simp) Z,.inr ⟨(H.push (.row false 4 [t.cells])).next,by simp,?_,?_⟩,?_,by simp,λj bP dK=> ?_⟩
  ·have:=p.1;simp only[J.b6,J.e9];omega
  ·have e:((H.push (.row false 4 [t.cells])).set l .dead).next=(H.push (.row false 4 [t.cells])).next:=rfl
   simp only[List.map_append,List.map_cons,List.map_nil];rw[<-e];exact J.ca _ _
  ·exact((p.bV _).de U _).bV _
  ·rw[J.gy (by simp only[J.b6,J.e9];omega),J.get_set_other (by rintro rfl;exact dK _ rfl),J.gy Z]
end
section
theorem KQ(d:Bool)(c:UInt8)(r:bk)(h:(gF c||(!d&&gR c))=true):1<=runN d (c::r):=by
 rw[runN,h];simp
theorem agl(s:bk):(lh s).length<=s.length:=by
 unfold lh;cases decide (2<=s.length)&&lj (s.take 2) o2 with
 |true=>simp only[bx,List.length_take];omega
 |false=>
  simp only[bi];cases s with
  |nil=>simp
  |cons c r=>simp only[List.length_cons];cases o6 c mc<;>simp
theorem GM{s:bk}{k:Int}{t:bk}{v:Int}{m:Nat}(h:jM s=some (k,t,v,m)):1<=m/\m<=s.length:=by
 cases s with
 |nil=>simp[jM] at h
 |cons c r=>
  have a7:=λd=>DY d (c::r)
  rw[jM] at h;cases ax:gR c with
  |true=>
   have bA:=KQ false c r (by simp[ax]);rw[ax,bx] at h;cases hw:rW ((c::r).take (runN false (c::r))) with
   |true=>rw[hw,bx] at h;cases h;exact⟨bA,a7 false⟩
   |false=>
    rw[hw,bi] at h;cases aV:iz ((c::r).take (runN false (c::r))) with
    |true=>rw[aV,bx] at h;cases h;exact⟨bA,a7 false⟩
    |false=>rw[aV,bi] at h;cases h
  |false=>
   rw[ax,bi] at h;cases bb:gF c with
   |true=>
    have bA:=KQ true c r (by simp[bb]);rw[bb,bx] at h;split at h
    ·cases h
    ·rename_i z ct;rw[Bool.cond_eq_ite] at h;split at h
     ·cases h
     ·cases h;exact⟨bA,a7 true⟩
   |false=>
    rw[bb,bi] at h;cases aO:lh (c::r)==[] with
    |true=>rw[aO,bx] at h;cases h
    |false=>
     rw[aO,bi] at h;cases h;have dK: ¬lh (c::r)=[]:=by simpa using aO
     have:=agl (c::r);exact⟨List.length_pos_iff.2 dK,this⟩
theorem wL: ∀(s:bk) (b:Bool),dY b s<=s.length
 |[],b=>by cases b<;>simp[dY]
 |c::r,true=>by
  have U:=wL r true;have aa:=wL r false;rw[dY];cases c.toNat==10<;>simp only[bx,bi,List.length_cons]<;>omega
 |c::r,false=>by
  have U:=wL r true;have aa:=wL r false;rw[dY];cases n4 c
  ·cases(c==47&&r.head?==some 47)<;>simp only[bx,bi,List.length_cons]<;>omega
  ·simp only[bx,List.length_cons];omega
def GQ(H0:J)(x:List Tok×Int×Int)(r:I)(H':J):Prop:= ∃aj,r= .tuple [aj,.agg [.int .i64 x.2.1,.int .i64 x.2.2]]/\h9 H' aj x.1/\aR H0 H'
def rZ(T:List Tok):Nat ⊕ List Tok->List Tok×Int×Int
 | .inl e=>([],1,e)
 | .inr l=>(T++l,0,0)
theorem V7(k p:Int):cM P 29 [(0,.int .i64 k),(1,.int .i64 p)]=some (.agg [.int .i64 k,.int .i64 p]):=ad
theorem SC{H0:J}{s:bk}(aO:s.length<=100000)(N:Nat): ∀(n:Nat) (rest:bk) (at_ m:Nat) (T:List Tok) (v:I) (H:J),s.drop at_=rest->at_<=s.length->vY (H0.push (.row false 2 [[.int .i64 0,.int .i64 0]])) H v T->aR (H0.push (.row false 2 [[.int .i64 0,.int .i64 0]])) H->T.length<=at_->rest.length<n->rest.length<m->
  W (xg (au P ao) N m (.str s) (.ptr H0.next 0 0) v (.int .i64 at_) H) (GQ H0 (rZ T (hW n rest at_)))
 |0,_,_,_,_,_,_,_,_,_,_,_,aV,_=>Z
 |_,_,_,0,_,_,_,_,_,_,_,_,_,hm=>Z
 |n+1,[],at_,m+1,T,v,H,h,b1,ay,p,aH,aV,hm=>by
  have hlen:=drop_nil h;have U: ¬((at_:Int)<(s.length:Int)):=Z;have CR:s.length=at_:=Z;have g:H.get H0.next=some (.row false 2 [[.int .i64 0,.int .i64 0]]):=p.get (J.ca _ _)
  have sj:=J.aW g;obtain⟨dr,H',gU,hZ,qz,s9,Ek⟩:=GR ay p Z ⟨0,[],0,s.length⟩;have fe:=He H.next ⟨0,[],0,s.length⟩
  simp only[Tok.v] at fe;simp-implicitDefEqProofs(disch:=try exact ag) only[xg,rH,tR,vk,tS,uK,reduceAdd,reduceLeDiff,reduceIte,az,U,decide_false,V8,fe,gU,ks];have g':H'.get H0.next=some (.row false 2 [[.int .i64 0,.int .i64 0]]):=by
   rw[Ek _ sj ?_];exact g;intro e he;rcases ay with⟨rfl,_⟩|⟨l,rfl,ax,_⟩
   ·cases he
   ·cases he;simp only[J.b6] at ax;omega
  have aoO:=J.aW g';have cp:cd (some (.agg [.int .i64 0,.int .i64 0])) (.agg [.int .i64 0,.int .i64 0])=true:=by simp[cd,I.beq,jA.beq]
  simp-implicitDefEqProofs(disch:=try exact ag) only[rH,tR,vk,tS,uK,reduceAdd,reduceLeDiff,reduceIte,az,g',cp];have eh:aR H0 H':=(aR.push _ _).trans qz;have et:aR H0 (H'.set H0.next (.row false 2 [[.int .i64 0,.int .i64 0]])):=eh.de (bL _) _;refine a8.2 ⟨dr,rfl,?_,et⟩;rw[hW];simp only[rZ];rw[CR] at hZ;exact hZ.tok.bo λl ro els e=>by
   rw[J.get_set_other];exact e;rintro rfl;rw[g'] at e;cases e
 |n+1,c::r,at_,m+1,T,v,H,h,b1,ay,p,aH,aV,hm=>by
  obtain⟨aI,bc,dm,eS⟩:=drop_cons h;have U:((at_:Int)<(s.length:Int)):=Z;have g:H.get H0.next=some (.row false 2 [[.int .i64 0,.int .i64 0]]):=p.get (J.ca _ _)
  have sj:=J.aW g;simp-implicitDefEqProofs(disch:=try exact ag) only[xg,rH,tR,vk,tS,uK,reduceAdd,reduceLeDiff,reduceIte,az,U,decide_true];refine aY (af1 Z dm) ?_;rintro _ bl ⟨rfl,aJ⟩;refine⟨aJ.1,?_⟩;have g2:=aJ.get g;have Ih:=J.aW g2;have cn:=ay.aK aJ;replace p:=p.trans aJ;rw[h,hW];cases bs:jM (c::r) with
  |none=>
   simp only[uw];simp-implicitDefEqProofs(disch:=try exact ag) only[rH,tR,vk,tS,uK,reduceAdd,reduceLeDiff,reduceIte,az,V7,beq_self_eq_true,g2,J.h8];have cp:cd (some (.agg [.int .i64 1,.int .i64 at_])) (.agg [.int .i64 1,.int .i64 at_])=true:=by simp[cd,I.beq,jA.beq]
   refine a8.2 ⟨.an,rfl,.inl ⟨rfl,rfl⟩,?_⟩;exact(((aR.push _ _).trans p).de (bL _) _).bV _
  |some q=>
   obtain⟨k,t,z,b⟩:=q;obtain⟨c_,cD⟩:=GM bs;have Nd:((b:Int)==0)=false:=by simp;omega
   simp only[uw];simp only[List.length_cons] at cD aV hm;obtain⟨dr,H',gU,hZ,qz,s9,Ek⟩:=GR (cn.aK (aR.push bl (.row false 4 [Tok.cells ⟨k,t,z,at_⟩]))) (p.bV _) Z ⟨k,t,z,at_⟩;have fe:=He (bl.next+1) ⟨k,t,z,at_⟩;simp only[Tok.v] at fe;simp only[Tok.cells,J.b6] at gU s9;simp only[Tok.cells] at fe;have cp: ∀nQ:J,cd (some (.agg [.int .i64 k,.str t,.int .i64 z,.int .i64 at_])) (.agg [.int .i64 k,.str t,.int .i64 z,.int .i64 at_])=true:=λ_=>by simp[cd,I.beq,jA.beq]
   simp-implicitDefEqProofs(disch:=try exact ag) only[rH,tR,vk,tS,uK,reduceAdd,reduceLeDiff,reduceIte,az,Nd,fe,gU,ks,sh];have mS:s.drop (at_+b)=(c::r).drop b:=by rw[<-List.drop_drop,h]
   have oG:=wL ((c::r).drop b) false;simp only[List.length_drop,List.length_cons] at oG;refine lz (P7 Z (at_:=at_+b) Z) ?_;rw[mS];simp only[tR];have Mn:at_+b+dY false ((c::r).drop b)<=s.length:=Z;have aT:=SC aO N n (s.drop (at_+b+dY false ((c::r).drop b))) (at_+b+dY false ((c::r).drop b)) m (T++[⟨k,t,z,at_⟩]) dr H' rfl Mn hZ qz (by simp;omega) (by simp;omega) (by simp;omega);refine aT.mono ?_;rintro w nD ⟨aj,cE,cx,eM⟩;have Nj:s.drop (at_+b+dY false ((c::r).drop b))=((c::r).drop b).drop (dY false ((c::r).drop b)):=by rw[<-List.drop_drop,mS]
   rw[Nj] at cE cx;have nd:rZ (T++[⟨k,t,z,at_⟩]) (hW n (((c::r).drop b).drop (dY false ((c::r).drop b))) (at_+b+dY false ((c::r).drop b)))=rZ T (match hW n (((c::r).drop b).drop (dY false ((c::r).drop b))) (at_+b+dY false ((c::r).drop b)) with
     | .inl e=> .inl e
     | .inr l=> .inr (⟨k,t,z,at_⟩::l)):=by
    cases hW n (((c::r).drop b).drop (dY false ((c::r).drop b))) (at_+b+dY false ((c::r).drop b)) with
    |inl e=>rfl
    |inr l=>simp[rZ]
   rw[nd] at cE cx;exact⟨aj,cE,cx,eM⟩
theorem aa4{H:J}(s:bk):W (au P ao 24 [.str s] H) (GQ H (gg s)):=by
 refine cU (λ_=>alU (s.length+1)) ?_;by_cases aG:(6000:Int)<(s.length:Int)
 ·have wb:6000<s.length:=Z;simp-implicitDefEqProofs(disch:=try exact ag) only[rH,tR,vk,tS,uK,reduceAdd,reduceLeDiff,reduceIte,az,aG,decide_true];refine a8.2 ⟨.an,by simp[gg,wb],.inl ⟨rfl,by simp[gg,wb]⟩,aR.push _ _⟩
 ·have wb: ¬6000<s.length:=Z;simp-implicitDefEqProofs(disch:=try exact ag) only[rH,tR,tS,uK,reduceAdd,reduceLeDiff,reduceIte,az,aG,decide_false];refine lz (P7 (s:=s) Z (at_:=0) Z) ?_;simp only[List.drop_zero,Nat.zero_add,tS];have oG:=wL s false;refine(SC (H0:=H) Z (s.length+1) (s.length+1) (s.drop (dY false s)) (dY false s) (s.length+1) [] .an _ rfl oG (.inl ⟨rfl,rfl⟩) (.refl _) (by simp) (by simp;omega) (by simp;omega)).mono ?_;rintro v H' ⟨aj,cE,cx,eM⟩;have nd:rZ [] (hW (s.length+1) (s.drop (dY false s)) (dY false s))=gg s:=by
   simp only[gg,if_neg wb,zZ];cases hW (s.length+1) (s.drop (dY false s)) (dY false s)<;>rfl
  rw[nd] at cE cx;exact⟨aj,cE,cx,eM⟩
end
section
set_option maxRecDepth 100000
noncomputable section
def I9(G:av)(Y:I)(H:J):O:=
 aL H (G 114 [] H) λaC U=>
 aL U (G 113 [aC,Y] U) λbf aa=>
 some (bf,aa)
theorem akR(G:av)(N:Nat)(Y:I)(H:J):bp Tryz.f97 G N (cF [Y]) H=I9 G Y H:=by
 refine cP (A:=bp Tryz.f97 G N) (aN _) ?_;delta I9;kernel_rfl
theorem amS(N:Nat){Y:I}{H:J}{r:I×J}(h:I9 (au P ao) Y H=some r):au P ao 97 [Y] H=some r:=
 cV ad Tryz.func97 ad ad ad ((akR (au P ao) N Y H).trans h)
def Ef(G:av)(bF Y b8:I)(al:J):O:=
 aD bF true al (bm (hP P 9 b8 (.int .i64 0))) λcb aB=>
 aD bF true aB (λq=>fo aB (G 68 [cb] aB) q) λb0 aG=>
 ab (cW bF (some b0) (some (.bool false))) λbT=>
 aD bT true aG (dw Y) λbI aP=>
 aD bT true aP (λq=>fo aP (G 95 [bI,(.func (.func 96) [] [])] aP) q) λcc bn=>
 aD bT true bn (dw Y) λcG bH=>
 aD bT true bH (λq=>ia (dC P .empty .len [9] [cG]) (dC P bH .len [9] [cG]) q) λc6 co=>
 aD bT true co (bm (aZ P .eql 3 false cc c6)) λcN dp=>
 ab (cW bT (some cN) (some (.bool false))) λcz=>
 aD cz true dp (dw Y) λcI dR=>
 aD cz true dR (λq=>fo dR (G 97 [cI] dR) q) λdb eF=>
 aD cz true eF (bm (fh .not db)) λdn fs=>
 ab (cW cz (some dn) (some (.bool false))) λdu=>
 some (du,fs)
def Dg(G:av)(Y:I)(H:J):O:=
 ab (aZ P .neq 9 true Y (.str [])) λa_=>
 aD a_ true H (dw Y) λbB U=>
 aD a_ true U (λq=>ia (dC P .empty .len [9] [bB]) (dC P U .len [9] [bB]) q) λbu aa=>
 aD a_ true aa (bm (aZ P .leq 3 true bu (.int .i64 8))) λbS ae=>
 ab (cW a_ (some bS) (some (.bool false))) λbF=>
 aD bF true ae (dw Y) (Ef G bF Y)
theorem akS(G:av)(N:Nat)(Y:I)(H:J):bp Tryz.f98 G N (cF [Y]) H=Dg G Y H:=by
 refine cP (A:=bp Tryz.f98 G N) (aN _) ?_;delta Dg Ef;kernel_rfl
theorem amT(N:Nat){Y:I}{H:J}{r:I×J}(h:Dg (au P ao) Y H=some r):au P ao 98 [Y] H=some r:=
 cV ad Tryz.func98 ad ad ad ((akS (au P ao) N Y H).trans h)
def zr(G:av)(N:Nat)(ai:I)(H:J):O:=
 some (ai,H)
theorem aeA(G:av)(N:Nat): ∀R H,cA P G N (Code.snd (Code.snd (di Tryz.f46))) (b_ Tryz.f46) [] (b_ Tryz.f46) R H=zr G N (R 1) H:=by
 refine ds (aN _) λR H=> ?_
 delta zr;kernel_rfl
def Ed(G:av)(N:Nat)(bE:I->I->J->O)(Y ai:I)(H:J):O:=
 bj P .len [9] [Y] H λbS=>
 ab (aZ P .lss 3 false ai bS) λbF=>
 bQ (some bF) (ab (hP P 9 Y ai) λbT=>
 aL H (G 66 [(.str [32,9,10,13]),bT] H) λbX U=>
 ab (aZ P .geq 3 true bX (.int .i64 0)) λbI=>
 bQ (some bI) (ab (aZ P .add 3 true ai (.int .i64 1)) λcG=>
 bE Y cG U) (ab (kh P 9 Y (some ai) none none) λc7=>
 aL U (G 67 [c7,(.str [47,47])] U) λcI aa=>
 bQ (some cI) (ab (kh P 9 Y (some ai) none none) λdu=>
 aL aa (G 66 [du,(.int .u8 10)] aa) λdh ae=>
 ab (aZ P .lss 3 true dh (.int .i64 0)) λdI=>
 bQ (some dI) (bj P .len [9] [Y] ae λep=>
 some (ep,ae)) (ab (aZ P .add 3 false ai dh) λe6=>
 bE Y e6 ae)) (some (ai,aa)))) (zr G N ai H)
def xi(G:av)(N:Nat):Nat->I->I->J->O
 |0,_,_,_=>none
 |n+1,Y,ai,H=>Ed G N (xi G N n) Y ai H
theorem aez(G:av)(N:Nat)(bE:I->I->J->O): ∀R H,cA P G N (Code.fst (Code.fst (Code.fst (Code.snd (di Tryz.f46))))) (λR H=>bE (R 0) (R 1) H) [(0,(λR H=>zr G N (R 1) H))] (b_ Tryz.f46) R H=Ed G N bE (R 0) (R 1) H:=by
 refine ds (aN _) λR H=> ?_
 delta Ed;generalize zr G N=ba;revert ba;refine id ?_;intro ba;kernel_rfl
def Dc(G:av)(N:Nat)(Y ai:I)(H:J):O:=
 xi G N N Y ai H
theorem aj_(G:av)(N:Nat)(Y:I)(ai:I)(H:J):bp Tryz.f46 G N (cF [Y,ai]) H=Dc G N Y ai H:=by
 refine cP (A:=bp Tryz.f46 G N) ((br ad ((br ad (aeA G N) ((fL ad ((gD (k:=λm R H=>xi G N m (R 0) (R 1) H) ad (λR H=>ad) (λm=>aez G N (xi G N m)))))))) (aN _))) ?_;delta Dc;generalize xi G N N=ba;revert ba;refine id ?_;intro ba;kernel_rfl
theorem ama(N:Nat){Y ai:I}{H:J}{r:I×J}(h:Dc (au P ao) N Y ai H=some r):au P ao 46 [Y,ai] H=some r:=
 cV ad Tryz.func46 ad ad ad ((aj_ (au P ao) N Y ai H).trans h)
def xj(G:av)(N:Nat)(ap:I)(H:J):O:=
 a1 H (aQ P H 57 ap (.agg [(.int .i64 0),(.str []),(.int .i64 0),(.int .i64 0)])) λU=>
 ab (am P U 57 ap) λr=>
 some (.tuple [r,(.int .i64 0)],U)
theorem aeC(G:av)(N:Nat): ∀R H,cA P G N (Code.snd (Code.snd (Code.snd (di Tryz.f47)))) (b_ Tryz.f47) [] (b_ Tryz.f47) R H=xj G N (R 2) H:=by
 refine ds (aN _) λR H=> ?_
 delta xj;kernel_rfl
def B4(G:av)(N:Nat)(bE:I->I->I->I->I->J->O)(Y ap:I)(c7 cI db:I)(H:J):O:=
 ab (aZ P .lss 3 false db cI) λdn=>
 bQ (some dn) (ab (en P 48 c7 db) λdu=>
 ab (am P H 9 du) λdh=>
 aL H (G 67 [Y,dh] H) λcH U=>
 bQ (some cH) (ab (cM P 57 [(0,(.int .i64 4)),(1,dh)]) λdV=>
 bj P .len [9] [dh] U λe6=>
 a1 U (aQ P U 57 ap dV) λaa=>
 ab (am P aa 57 ap) λr=>
 some (.tuple [r,e6],aa)) (ab (aZ P .add 3 true db (.int .i64 1)) λeg=>
 bE Y ap c7 cI eg U)) (xj G N ap H)
def xk(G:av)(N:Nat):Nat->I->I->I->I->I->J->O
 |0,_,_,_,_,_,_=>none
 |n+1,Y,ap,c7,cI,db,H=>B4 G N (xk G N n) Y ap c7 cI db H
theorem aeB(G:av)(N:Nat)(bE:I->I->I->I->I->J->O): ∀R H,cA P G N (Code.fst (Code.fst (Code.snd (Code.fst (Code.snd (Code.snd (di Tryz.f47))))))) (λR H=>bE (R 0) (R 2) (R 22) (R 23) (R 24) H) [(1,(λR H=>xj G N (R 2) H))] (b_ Tryz.f47) R H=B4 G N bE (R 0) (R 2) (R 22) (R 23) (R 24) H:=by
 refine ds (aN _) λR H=> ?_
 delta B4;generalize xj G N=ba;revert ba;refine id ?_;intro ba;kernel_rfl
def Dd(G:av)(N:Nat)(Y:I)(H:J):O:=
 cv H [(.int .i64 0),(.str []),(.int .i64 0),(.int .i64 0)] λap U=>
 ab (hP P 9 Y (.int .i64 0)) λbS=>
 aL U (G 68 [bS] U) λbF aa=>
 bQ (some bF) (aL aa (G 69 [Y] aa) λb8 ae=>
 ab (gf b8 0) λcb=>
 ab (gf b8 1) λb0=>
 a1 ae (aQ P ae 57 ap cb) λal=>
 ab (am P al 57 ap) λr=>
 some (.tuple [r,b0],al)) (ab (hP P 9 Y (.int .i64 0)) λbI=>
 aL aa (G 70 [bI] aa) λcc ae=>
 bQ (some cc) (aL ae (G 71 [Y] ae) λc6 al=>
 ab (gf c6 0) λcN=>
 ab (gf c6 1) λcz=>
 a1 al (aQ P al 57 ap cN) λaB=>
 ab (am P aB 57 ap) λr=>
 some (.tuple [r,cz],aB)) (aL ae (G 72 [] ae) λc7 al=>
 bj P .len [48] [c7] al λcI=>
 xk G N N Y ap c7 cI (.int .i64 0) al))
theorem aka(G:av)(N:Nat)(Y:I)(H:J):bp Tryz.f47 G N (cF [Y]) H=Dd G N Y H:=by
 refine cP (A:=bp Tryz.f47 G N) ((br ad ((br ad ((br ad (aeC G N) ((br ad ((fL ad ((gD (k:=λm R H=>xk G N m (R 0) (R 2) (R 22) (R 23) (R 24) H) ad (λR H=>ad) (λm=>aeB G N (xk G N m)))))) (aN _))))) (aN _))) (aN _))) ?_;delta Dd;generalize xk G N N=ba;revert ba;refine id ?_;intro ba;kernel_rfl
theorem amb(N:Nat){Y:I}{H:J}{r:I×J}(h:Dd (au P ao) N Y H=some r):au P ao 47 [Y] H=some r:=
 cV ad Tryz.func47 ad ad ad ((aka (au P ao) N Y H).trans h)
def HW(G:av)(Y ai:I)(H:J):O:=
 aL H (G 129 [Y,ai] H) λbu U=>
 ab (aZ P .geq 3 true bu (.int .i64 0)) λbS=>
 some (bS,U)
theorem ahh(G:av)(N:Nat)(Y:I)(ai:I)(H:J):bp Tryz.f113 G N (cF [Y,ai]) H=HW G Y ai H:=by
 refine cP (A:=bp Tryz.f113 G N) (aN _) ?_;delta HW;kernel_rfl
theorem aiT(N:Nat){Y ai:I}{H:J}{r:I×J}(h:HW (au P ao) Y ai H=some r):au P ao 113 [Y,ai] H=some r:=
 cV ad Tryz.func113 ad ad ad ((ahh (au P ao) N Y ai H).trans h)
def HX(G:av)(H:J):O:=
 aL H (G 100 [(.str [114,101,99,111,114,100,32,103,108,111,98,97,108,32,102,117,110,99,32,118,97,114,32,108,101,116,32,105,102,32,101,108,115,101,32,119,104,105,108,101,32,114,101,116,117,114,110,32,112,114,105,110,116,32,110,117,108,108,32,110,101,119,32,108,101,110,32,114,101,97,100,32,116,114,117,101,32,102,97,108,115,101,32,105,110,116,32,98,111,111,108])] H) λai U=>
 some (ai,U)
theorem ahi(G:av)(N:Nat)(H:J):bp Tryz.f114 G N (cF []) H=HX G H:=by
 refine cP (A:=bp Tryz.f114 G N) (aN _) ?_;delta HX;kernel_rfl
theorem aiU(N:Nat){H:J}{r:I×J}(h:HX (au P ao) H=some r):au P ao 114 [] H=some r:=
 cV ad Tryz.func114 ad ad ad ((ahi (au P ao) N H).trans h)
def I0(G:av)(Y:I)(H:J):O:=
 ab (aZ P .geq 5 true Y (.int .u8 97)) λa_=>
 aD a_ true H (dw Y) λbB U=>
 aD a_ true U (bm (aZ P .leq 5 true bB (.int .u8 122))) λbu aa=>
 ab (cW a_ (some bu) (some (.bool false))) λbS=>
 aD bS false aa (dw Y) λcr ae=>
 aD bS false ae (bm (aZ P .geq 5 true cr (.int .u8 65))) λb8 al=>
 aD bS false al (dw b8) λcb aB=>
 aD cb true aB (dw Y) λb0 aG=>
 aD cb true aG (bm (aZ P .leq 5 true b0 (.int .u8 90))) λbT aP=>
 aD bS false aP (bm (cW cb (some bT) (some (.bool false)))) λbX bn=>
 ab (cW bS (some (.bool true)) (some bX)) λbI=>
 some (bI,bn)
theorem akt(G:av)(N:Nat)(Y:I)(H:J):bp Tryz.f68 G N (cF [Y]) H=I0 G Y H:=by
 refine cP (A:=bp Tryz.f68 G N) (aN _) ?_;delta I0;kernel_rfl
theorem amu(N:Nat){Y:I}{H:J}{r:I×J}(h:I0 (au P ao) Y H=some r):au P ao 68 [Y] H=some r:=
 cV ad Tryz.func68 ad ad ad ((akt (au P ao) N Y H).trans h)
def xq(G:av)(N:Nat)(bf:I)(H:J):O:=
 some (bf,H)
theorem afa(G:av)(N:Nat): ∀R H,cA P G N (Code.snd (Code.snd (Code.snd (di Tryz.f95)))) (b_ Tryz.f95) [] (b_ Tryz.f95) R H=xq G N (R 5) H:=by
 refine ds (aN _) λR H=> ?_
 delta xq;kernel_rfl
def Ee(G:av)(N:Nat)(bE:I->I->I->J->O)(Y ai bf:I)(H:J):O:=
 bj P .len [9] [Y] H λbS=>
 ab (aZ P .lss 3 false bf bS) λbF=>
 aD bF true H (dw ai) λb8 U=>
 aD bF true U (dw Y) λcb aa=>
 aD bF true aa (dw bf) λb0 ae=>
 aD bF true ae (bm (hP P 9 cb b0)) λbT al=>
 aD bF true al (λq=>(BC b8 [bT]).bind λp=>fo al (G p.1 p.2 al) q) λbX aB=>
 ab (cW bF (some bX) (some (.bool false))) λbI=>
 bQ (some bI) (ab (aZ P .add 3 true bf (.int .i64 1)) λcG=>
 bE Y ai cG aB) (xq G N bf aB)
def xr(G:av)(N:Nat):Nat->I->I->I->J->O
 |0,_,_,_,_=>none
 |n+1,Y,ai,bf,H=>Ee G N (xr G N n) Y ai bf H
theorem ae_(G:av)(N:Nat)(bE:I->I->I->J->O): ∀R H,cA P G N (Code.fst (Code.fst (Code.fst (Code.snd (Code.snd (di Tryz.f95)))))) (λR H=>bE (R 0) (R 1) (R 5) H) [(0,(λR H=>xq G N (R 5) H))] (b_ Tryz.f95) R H=Ee G N bE (R 0) (R 1) (R 5) H:=by
 refine ds (aN _) λR H=> ?_
 delta Ee;generalize xq G N=ba;revert ba;refine id ?_;intro ba;kernel_rfl
def Df(G:av)(N:Nat)(Y ai:I)(H:J):O:=
 xr G N N Y ai (.int .i64 0) H
theorem akP(G:av)(N:Nat)(Y:I)(ai:I)(H:J):bp Tryz.f95 G N (cF [Y,ai]) H=Df G N Y ai H:=by
 refine cP (A:=bp Tryz.f95 G N) ((br ad ((br ad ((br ad (afa G N) ((fL ad ((gD (k:=λm R H=>xr G N m (R 0) (R 1) (R 5) H) ad (λR H=>ad) (λm=>ae_ G N (xr G N m)))))))) (aN _))) (aN _))) ?_;delta Df;generalize xr G N N=ba;revert ba;refine id ?_;intro ba;kernel_rfl
theorem amQ(N:Nat){Y ai:I}{H:J}{r:I×J}(h:Df (au P ao) N Y ai H=some r):au P ao 95 [Y,ai] H=some r:=
 cV ad Tryz.func95 ad ad ad ((akP (au P ao) N Y ai H).trans h)
def I8(G:av)(Y:I)(H:J):O:=
 aL H (G 68 [Y] H) λa_ U=>
 aD a_ false U (dw Y) λbB aa=>
 aD a_ false aa (λq=>fo aa (G 70 [bB] aa) q) λbu ae=>
 ab (cW a_ (some (.bool true)) (some bu)) λbS=>
 some (bS,ae)
theorem akQ(G:av)(N:Nat)(Y:I)(H:J):bp Tryz.f96 G N (cF [Y]) H=I8 G Y H:=by
 refine cP (A:=bp Tryz.f96 G N) (aN _) ?_;delta I8;kernel_rfl
theorem amR(N:Nat){Y:I}{H:J}{r:I×J}(h:I8 (au P ao) Y H=some r):au P ao 96 [Y] H=some r:=
 cV ad Tryz.func96 ad ad ad ((akQ (au P ao) N Y H).trans h)
def IZ(G:av)(Y ai:I)(H:J):O:=
 aL H (G 94 [Y,ai] H) λbu U=>
 some (bu,U)
theorem aks(G:av)(N:Nat)(Y:I)(ai:I)(H:J):bp Tryz.f67 G N (cF [Y,ai]) H=IZ G Y ai H:=by
 refine cP (A:=bp Tryz.f67 G N) (aN _) ?_;delta IZ;kernel_rfl
theorem amt(N:Nat){Y ai:I}{H:J}{r:I×J}(h:IZ (au P ao) Y ai H=some r):au P ao 67 [Y,ai] H=some r:=
 cV ad Tryz.func67 ad ad ad ((aks (au P ao) N Y ai H).trans h)
def I1(G:av)(Y:I)(H:J):O:=
 cv H [(.int .i64 0),(.str []),(.int .i64 0),(.int .i64 0)] λap U=>
 aL U (G 95 [Y,(.func (.func 96) [] [])] U) λbu aa=>
 ab (kh P 9 Y none (some bu) none) λcr=>
 aL aa (G 97 [cr] aa) λb0 ae=>
 bQ (some b0) (ab (cM P 57 [(0,(.int .i64 3)),(1,cr)]) λbX=>
 a1 ae (aQ P ae 57 ap bX) λal=>
 ab (am P al 57 ap) λr=>
 some (.tuple [r,bu],al)) (aL ae (G 98 [cr] ae) λc6 al=>
 bQ (some c6) (ab (cM P 57 [(0,(.int .i64 1)),(1,cr)]) λcz=>
 a1 al (aQ P al 57 ap cz) λaB=>
 ab (am P aB 57 ap) λr=>
 some (.tuple [r,bu],aB)) (a1 al (aQ P al 57 ap (.agg [(.int .i64 0),(.str []),(.int .i64 0),(.int .i64 0)])) λaB=>
 ab (am P aB 57 ap) λr=>
 some (.tuple [r,(.int .i64 0)],aB)))
theorem aku(G:av)(N:Nat)(Y:I)(H:J):bp Tryz.f69 G N (cF [Y]) H=I1 G Y H:=by
 refine cP (A:=bp Tryz.f69 G N) (aN _) ?_;delta I1;kernel_rfl
theorem amv(N:Nat){Y:I}{H:J}{r:I×J}(h:I1 (au P ao) Y H=some r):au P ao 69 [Y] H=some r:=
 cV ad Tryz.func69 ad ad ad ((aku (au P ao) N Y H).trans h)
def I2(G:av)(Y:I)(H:J):O:=
 ab (aZ P .geq 5 true Y (.int .u8 48)) λa_=>
 aD a_ true H (dw Y) λbB U=>
 aD a_ true U (bm (aZ P .leq 5 true bB (.int .u8 57))) λbu aa=>
 ab (cW a_ (some bu) (some (.bool false))) λbS=>
 some (bS,aa)
theorem akv(G:av)(N:Nat)(Y:I)(H:J):bp Tryz.f70 G N (cF [Y]) H=I2 G Y H:=by
 refine cP (A:=bp Tryz.f70 G N) (aN _) ?_;delta I2;kernel_rfl
theorem amw(N:Nat){Y:I}{H:J}{r:I×J}(h:I2 (au P ao) Y H=some r):au P ao 70 [Y] H=some r:=
 cV ad Tryz.func70 ad ad ad ((akv (au P ao) N Y H).trans h)
def I3(G:av)(Y:I)(H:J):O:=
 cv H [(.int .i64 0),(.str []),(.int .i64 0),(.int .i64 0)] λap U=>
 aL U (G 95 [Y,(.func (.func 70) [] [])] U) λbS aa=>
 ab (kh P 9 Y none (some bS) none) λcb=>
 aL aa (G 99 [cb] aa) λb0 ae=>
 ab (gf b0 0) λbT=>
 ab (gf b0 1) λbX=>
 ab (aZ P .neq 126 true bX I.nilIface) λcc=>
 aD cc false ae (dw bS) λc6 al=>
 aD cc false al (bm (aZ P .gtr 3 true c6 (.int .i64 1))) λcN aB=>
 aD cc false aB (dw cN) λcz aG=>
 aD cz true aG (dw Y) λc7 aP=>
 aD cz true aP (bm (hP P 9 c7 (.int .i64 0))) λcI bn=>
 aD cz true bn (bm (aZ P .eql 5 true cI (.int .u8 48))) λdb bH=>
 aD cc false bH (bm (cW cz (some db) (some (.bool false)))) λdn co=>
 ab (cW cc (some (.bool true)) (some dn)) λdu=>
 aD du false co (dw bS) λdT dp=>
 aD du false dp (dw Y) λdI dR=>
 aD du false dR (λq=>ia (dC P .empty .len [9] [dI]) (dC P dR .len [9] [dI]) q) λcH eF=>
 aD du false eF (bm (aZ P .lss 3 false dT cH)) λep fs=>
 aD du false fs (dw ep) λdV fP=>
 aD dV true fP (dw Y) λef gG=>
 aD dV true gG (dw bS) λe6 hM=>
 aD dV true hM (bm (hP P 9 ef e6)) λeg ht=>
 aD dV true ht (λq=>fo ht (G 68 [eg] ht) q) λej kL=>
 aD du false kL (bm (cW dV (some ej) (some (.bool false)))) λed iC=>
 ab (cW du (some (.bool true)) (some ed)) λfj=>
 bQ (some fj) (a1 iC (aQ P iC 57 ap (.agg [(.int .i64 0),(.str []),(.int .i64 0),(.int .i64 0)])) λhU=>
 ab (am P hU 57 ap) λr=>
 some (.tuple [r,(.int .i64 0)],hU)) (ab (cM P 57 [(0,(.int .i64 2)),(2,bT)]) λfy=>
 a1 iC (aQ P iC 57 ap fy) λhU=>
 ab (am P hU 57 ap) λr=>
 some (.tuple [r,bS],hU))
theorem akw(G:av)(N:Nat)(Y:I)(H:J):bp Tryz.f71 G N (cF [Y]) H=I3 G Y H:=by
 refine cP (A:=bp Tryz.f71 G N) (aN _) ?_;delta I3;kernel_rfl
theorem amx(N:Nat){Y:I}{H:J}{r:I×J}(h:I3 (au P ao) Y H=some r):au P ao 71 [Y] H=some r:=
 cV ad Tryz.func71 ad ad ad ((akw (au P ao) N Y H).trans h)
def I4(G:av)(H:J):O:=
 aL H (G 100 [(.str [60,61,32,61,61,32,33,61,32,38,38,32,124,124,32,123,32,125,32,40,32,41,32,91,32,93,32,59,32,58,32,44,32,46,32,61,32,43,32,45,32,42,32,47,32,37,32,60,32,33])] H) λai U=>
 some (ai,U)
theorem akx(G:av)(N:Nat)(H:J):bp Tryz.f72 G N (cF []) H=I4 G H:=by
 refine cP (A:=bp Tryz.f72 G N) (aN _) ?_;delta I4;kernel_rfl
theorem amy(N:Nat){H:J}{r:I×J}(h:I4 (au P ao) H=some r):au P ao 72 [] H=some r:=
 cV ad Tryz.func72 ad ad ad ((akx (au P ao) N H).trans h)
def u_(G:av)(N:Nat)(H:J):O:=
 some ((.int .i64 (-1)),H)
theorem acP(G:av)(N:Nat): ∀R H,cA P G N (Code.snd (Code.snd (di Tryz.f129))) (b_ Tryz.f129) [] (b_ Tryz.f129) R H=u_ G N H:=by
 refine ds (aN _) λR H=> ?_
 delta u_;kernel_rfl
def yY(G:av)(N:Nat)(bE:I->I->I->I->J->O)(Y ai:I)(bu bS:I)(H:J):O:=
 ab (aZ P .lss 3 false bS bu) λbF=>
 bQ (some bF) (ab (en P 48 Y bS) λbT=>
 ab (am P H 9 bT) λbX=>
 ab (aZ P .eql 9 false ai bX) λbI=>
 bQ (some bI) (some (bS,H)) (ab (aZ P .add 3 true bS (.int .i64 1)) λcG=>
 bE Y ai bu cG H)) (u_ G N H)
def w3(G:av)(N:Nat):Nat->I->I->I->I->J->O
 |0,_,_,_,_,_=>none
 |n+1,Y,ai,bu,bS,H=>yY G N (w3 G N n) Y ai bu bS H
theorem acO(G:av)(N:Nat)(bE:I->I->I->I->J->O): ∀R H,cA P G N (Code.fst (Code.fst (Code.snd (Code.fst (Code.snd (di Tryz.f129)))))) (λR H=>bE (R 0) (R 1) (R 7) (R 8) H) [(0,(λR H=>u_ G N H))] (b_ Tryz.f129) R H=yY G N bE (R 0) (R 1) (R 7) (R 8) H:=by
 refine ds (aN _) λR H=> ?_
 delta yY;generalize u_ G N=ba;revert ba;refine id ?_;intro ba;kernel_rfl
def xW(G:av)(N:Nat)(Y ai:I)(H:J):O:=
 bj P .len [48] [Y] H λbu=>
 w3 G N N Y ai bu (.int .i64 0) H
theorem aht(G:av)(N:Nat)(Y:I)(ai:I)(H:J):bp Tryz.f129 G N (cF [Y,ai]) H=xW G N Y ai H:=by
 refine cP (A:=bp Tryz.f129 G N) ((br ad ((br ad (acP G N) ((br ad ((fL ad ((gD (k:=λm R H=>w3 G N m (R 0) (R 1) (R 7) (R 8) H) ad (λR H=>ad) (λm=>acO G N (w3 G N m)))))) (aN _))))) (aN _))) ?_;delta xW;generalize w3 G N N=ba;revert ba;refine id ?_;intro ba;kernel_rfl
theorem ai5(N:Nat){Y ai:I}{H:J}{r:I×J}(h:xW (au P ao) N Y ai H=some r):au P ao 129 [Y,ai] H=some r:=
 cV ad Tryz.func129 ad ad ad ((aht (au P ao) N Y ai H).trans h)
def FP(G:av)(Y ai:I)(H:J):O:=
 bj P .len [9] [Y] H λbB=>
 bj P .len [9] [ai] H λbS=>
 ab (aZ P .geq 3 false bB bS) λbF=>
 aD bF true H (dw Y) λb8 U=>
 aD bF true U (dw ai) λcb aa=>
 aD bF true aa (λq=>ia (dC P .empty .len [9] [cb]) (dC P aa .len [9] [cb]) q) λb0 ae=>
 aD bF true ae (bm (kh P 9 b8 none (some b0) none)) λbT al=>
 aD bF true al (dw ai) λbX aB=>
 aD bF true aB (bm (aZ P .eql 9 false bT bX)) λbI aG=>
 ab (cW bF (some bI) (some (.bool false))) λcc=>
 some (cc,aG)
theorem akO(G:av)(N:Nat)(Y:I)(ai:I)(H:J):bp Tryz.f94 G N (cF [Y,ai]) H=FP G Y ai H:=by
 refine cP (A:=bp Tryz.f94 G N) (aN _) ?_;delta FP;kernel_rfl
theorem amP(N:Nat){Y ai:I}{H:J}{r:I×J}(h:FP (au P ao) Y ai H=some r):au P ao 94 [Y,ai] H=some r:=
 cV ad Tryz.func94 ad ad ad ((akO (au P ao) N Y ai H).trans h)
def rG(G:av)(N:Nat)(Y aC a_:I)(H:J):O:=
 bj P .len [9] [Y] H λfW=>
 ab (cM P 57 [(0,(.int .i64 0)),(3,fW)]) λgv=>
 dA H (dH P (H).next 50 1 [(0,gv)]) λeU U=>
 aL U (fM P U [50,50] a_ eU) λgw aa=>
 a1 aa (aQ P aa 29 aC (.agg [(.int .i64 0),(.int .i64 0)])) λae=>
 ab (am P ae 29 aC) λr=>
 some (.tuple [gw,r],ae)
theorem aeb(G:av)(N:Nat): ∀R H,cA P G N (Code.snd (Code.snd (Code.snd (Code.snd (di Tryz.f16))))) (b_ Tryz.f16) [] (b_ Tryz.f16) R H=rG G N (R 0) (R 3) (R 4) H:=by
 refine ds (aN _) λR H=> ?_
 delta rG;kernel_rfl
def vi(G:av)(N:Nat)(bE:I->I->I->I->J->O)(Y aC:I)(a_ bf:I)(H:J):O:=
 bj P .len [9] [Y] H λbI=>
 ab (aZ P .lss 3 false bf bI) λcc=>
 bQ (some cc) (ab (kh P 9 Y (some bf) none none) λcz=>
 aL H (G 47 [cz] H) λc7 U=>
 ab (gf c7 0) λcI=>
 ab (gf c7 1) λdb=>
 cv U [(.int .i64 0),(.str []),(.int .i64 0),(.int .i64 0)] λbB aa=>
 a1 aa (aQ P aa 57 bB cI) λae=>
 ab (aZ P .eql 3 true db (.int .i64 0)) λdu=>
 bQ (some du) (ab (cM P 29 [(0,(.int .i64 1)),(1,bf)]) λdT=>
 a1 ae (aQ P ae 29 aC dT) λal=>
 ab (am P al 29 aC) λr=>
 some (.tuple [I.an,r],al)) (ab (aF P 57 bB 3) λcH=>
 a1 ae (aQ P ae 3 cH bf) λal=>
 ab (am P al 57 bB) λdV=>
 dA al (dH P (al).next 50 1 [(0,dV)]) λef aB=>
 aL aB (fM P aB [50,50] a_ ef) λe6 aG=>
 ab (aZ P .add 3 false bf db) λfj=>
 aL aG (G 46 [Y,fj] aG) λft aP=>
 bE Y aC e6 ft aP)) (rG G N Y aC a_ H)
def xf(G:av)(N:Nat):Nat->I->I->I->I->J->O
 |0,_,_,_,_,_=>none
 |n+1,Y,aC,a_,bf,H=>vi G N (xf G N n) Y aC a_ bf H
theorem aea(G:av)(N:Nat)(bE:I->I->I->I->J->O): ∀R H,cA P G N (Code.fst (Code.fst (Code.snd (Code.fst (Code.snd (Code.snd (Code.snd (di Tryz.f16)))))))) (λR H=>bE (R 0) (R 3) (R 4) (R 5) H) [(0,(λR H=>rG G N (R 0) (R 3) (R 4) H))] (b_ Tryz.f16) R H=vi G N bE (R 0) (R 3) (R 4) (R 5) H:=by
 refine ds (aN _) λR H=> ?_
 delta vi;generalize rG G N=ba;revert ba;refine id ?_;intro ba;kernel_rfl
def uJ(G:av)(N:Nat)(Y:I)(H:J):O:=
 cv H [(.int .i64 0),(.int .i64 0)] λaC U=>
 bj P .len [9] [Y] U λbF=>
 ab (aZ P .gtr 3 true bF (.int .i64 6000)) λcr=>
 bQ (some cr) (a1 U (aQ P U 29 aC (.agg [(.int .i64 4),(.int .i64 0)])) λaa=>
 ab (am P aa 29 aC) λr=>
 some (.tuple [I.an,r],aa)) (aL U (G 46 [Y,(.int .i64 0)] U) λb0 aa=>
 xf G N N Y aC I.an b0 aa)
theorem ajL(G:av)(N:Nat)(Y:I)(H:J):bp Tryz.f16 G N (cF [Y]) H=uJ G N Y H:=by
 refine cP (A:=bp Tryz.f16 G N) ((br ad ((br ad ((br ad ((br ad (aeb G N) ((br ad ((fL ad ((gD (k:=λm R H=>xf G N m (R 0) (R 3) (R 4) (R 5) H) ad (λR H=>ad) (λm=>aea G N (xf G N m)))))) (aN _))))) (aN _))) (aN _))) (aN _))) ?_;delta uJ;generalize xf G N N=ba;revert ba;refine id ?_;intro ba;kernel_rfl
theorem alM(N:Nat){Y:I}{H:J}{r:I×J}(h:uJ (au P ao) N Y H=some r):au P ao 16 [Y] H=some r:=
 cV ad Tryz.func16 ad ad ad ((ajL (au P ao) N Y H).trans h)
end
end
end Go.Proofs.YtghmbpmaafnodaaGreatDoor
namespace Go.Proofs.YtghmbpmaafnodaaGreatDoor.jv
open Go.f7
open Nat (reduceAdd reduceLeDiff)
structure ko(H:J):Prop where
 I_:H.get 0=some (.row true 1 sY)
 err:H.get 1=some (.row true 1 xS)
theorem ko.aK{H H':J}(h:ko H)(p:aR H H'):ko H':=⟨p.get h.I_,p.get h.err⟩
theorem Dq{H:J}(c:Int):W (au P ao 68 [.int .u8 c] H) λv H'=>v= .bool (lg c)/\H'=H:=by
 refine cU (λ_=>amu 0) ?_;unfold lg;cases U:decide (97<=c)<;>cases aa:decide (c<=122)<;>cases ae:decide (65<=c)<;>cases al:decide (c<=90)<;>
  (simp-implicitDefEqProofs(disch:=try exact ag) only[I0,bj,bO,ei,U,aa,ae,al];exact a8.2 ⟨rfl,rfl⟩)
theorem JH{H:J}(c:Int):W (au P ao 70 [.int .u8 c] H) λv H'=>v= .bool (ox c)/\H'=H:=by
 refine cU (λ_=>amw 0) ?_;unfold ox;cases U:decide (48<=c)<;>cases aa:decide (c<=57)<;>
  (simp-implicitDefEqProofs(disch:=try exact ag) only[I2,bj,bO,ei,U,aa];exact a8.2 ⟨rfl,rfl⟩)
theorem abm{H:J}(c:Int):W (au P ao 96 [.int .u8 c] H) λv H'=>v= .bool (lg c||ox c)/\H'=H:=by
 refine cU (λ_=>amR 0) ?_;rw[I8];refine lz (Dq c) ?_;cases h:lg c with
 |true=>
  simp-implicitDefEqProofs(disch:=try exact ag) only[bj,bO];exact a8.2 ⟨rfl,rfl⟩
 |false=>
  simp-implicitDefEqProofs(disch:=try exact ag) only[bj,bO];refine rC (JH c) ?_;simp-implicitDefEqProofs(disch:=try exact ag) only[bj,bO];exact a8.2 ⟨rfl,rfl⟩
def Hf(d:Bool)(c:UInt8):Bool:=gF c||(!d&&gR c)
def NL(d:Bool):Nat:=if d then 70 else 96
theorem rq{H:J}(d:Bool)(c:UInt8):W (au P ao (NL d) [.int .u8 c.toNat] H) λv H'=>v= .bool (Hf d c)/\H'=H:=by
 cases d with
 |true=>
  refine(JH (H:=H) (c.toNat:Int)).mono ?_;rintro v H' ⟨rfl,rfl⟩;exact⟨by simp[Hf,gF],rfl⟩
 |false=>
  refine(abm (H:=H) (c.toNat:Int)).mono ?_;rintro v H' ⟨rfl,rfl⟩;exact⟨by simp[Hf,gF,gR,Bool.or_comm],rfl⟩
theorem abe(g:Nat)(cm:List I):BC (.func (.func g) [] []) cm=some (g,cm):=by simp[BC]
theorem Q9{H:J}{s:bk}(aO:s.length<=1000000000000000000)(d:Bool)(N:Nat): ∀(rest:bk) (n m:Nat),s.drop n=rest->n<=s.length->rest.length<m->
  W (xr (au P ao) N m (.str s) (.func (.func (NL d)) [] []) (.int .i64 n) H) λv H'=>v= .int .i64 ((n+runN d rest:Nat):Int)/\H'=H
 |_,_,0,_,_,hm=>Z
 |[],n,m+1,h,aV,hm=>by
  have:=drop_nil h;have U: ¬((n:Int)<(s.length:Int)):=Z;simp-implicitDefEqProofs(disch:=try exact ag) only[xr,xq,Ee,Df,reduceAdd,reduceLeDiff,reduceIte,az,U,decide_false];exact a8.2 ⟨by simp[runN],rfl⟩
 |c::r,n,m+1,h,aV,hm=>by
  obtain⟨aI,bc,dm,eS⟩:=drop_cons h;have U:((n:Int)<(s.length:Int)):=Z;have ha:=pk aI;simp-implicitDefEqProofs(disch:=try exact ag) only[xr,xq,Ee,Df,reduceAdd,reduceLeDiff,reduceIte,az,U,decide_true,ha,abe];refine rC (rq d c) ?_;cases ay:Hf d c with
  |true=>
   simp-implicitDefEqProofs(disch:=try exact ag) only[bj,bO,ei,mv];refine(Q9 (H:=H) aO d N r (n+1) m bc Z (by simp at hm;omega)).mono ?_;rintro v H' ⟨rfl,rfl⟩;have e:runN d (c::r)=runN d r+1:=by
    have:(gF c||(!d&&gR c))=true:=ay;rw[runN,this];rfl
   have cC:n+1+runN d r=n+runN d (c::r):=by rw[e];omega
   exact⟨by rw[cC],rfl⟩
  |false=>
   simp-implicitDefEqProofs(disch:=try exact ag) only[bj,bO,xq];have e:runN d (c::r)=0:=by
    have:(gF c||(!d&&gR c))=false:=ay;rw[runN,this];rfl
   exact a8.2 ⟨by rw[e];rfl,rfl⟩
theorem Kp{H:J}{s:bk}(aO:s.length<=1000000000000000000)(d:Bool):W (au P ao 95 [.str s,.func (.func (NL d)) [] []] H) λv H'=>v= .int .i64 (runN d s:Nat)/\H'=H:=by
 refine cU (λ_=>amQ (s.length+1)) ?_;rw[Df];have:=Q9 (H:=H) aO d (s.length+1) s 0 (s.length+1) rfl Z Z;simpa using this
theorem Px{H:J}(aX:ko H)(s:bk)(l:List bk)(aO:s.length<4294967281)(b1: ∀(j:Nat) b,s[j]? =some b->b.toNat<128)(ak:Lib.fields s=l):au P ao 100 [.str s] H=some (.aM H.next 0 l.length 1 (some l.length),H.push (.row false 1 (l.map λx=>[.str x]))):=by
 subst ak;refine GS ?_;exact if_pos ⟨aO,b1,aX.I_⟩
def vC:List bk:=o2++[[123],[125],[40],[41],[91],[93],[59],[58],[44],[46],[61],[43],[45],[42],[47],[37],[60],[33]]
theorem RD{s:bk}(h:s.all (λb=>decide (b.toNat<128))=true): ∀(j:Nat) b,s[j]? =some b->b.toNat<128:=λj b bP=>by
 have:=List.all_eq_true.1 h b (List.mem_of_getElem? bP);simpa using this
theorem abv{H:J}(aX:ko H):W (au P ao 114 [] H) λv H'=>v= .aM H.next 0 sK.length 1 (some sK.length)/\H'=H.push (.row false 1 (sK.map λy=>[I.str y])):=by
 refine cU (λ_=>aiU 0) ?_;rw[HX,Px aX _ sK cl (RD (by decide+kernel)) (by decide+kernel)];simp only[aL,J.b6,Nat.le_succ,decide_true,bx];exact a8.2 ⟨rfl,rfl⟩
theorem abu{H:J}(aX:ko H):W (au P ao 72 [] H) λv H'=>v= .aM H.next 0 vC.length 1 (some vC.length)/\H'=H.push (.row false 1 (vC.map λy=>[I.str y])):=by
 refine cU (λ_=>amy 0) ?_;rw[I4,Px aX _ vC cl (RD (by decide+kernel)) (by decide+kernel)];simp only[aL,J.b6,Nat.le_succ,decide_true,bx];exact a8.2 ⟨rfl,rfl⟩
def z7(x:bk):List bk->Nat->Int
 |[],_=> -1
 |y::dQ,n=>bif x==y then n else z7 x dQ (n+1)
theorem Sm(x:bk): ∀(l:List bk) (n:Nat),decide (0<=z7 x l n)=lj x l
 |[],n=>rfl
 |y::dQ,n=>by
  have aS:(y==x)=(x==y):=by
   cases h:x==y with
   |true=>rw[eq_of_beq h];simp
   |false=>
    have:x≠y:=by simpa using h
    simpa using λe:y=x=>this e.symm
  rw[z7,lj,aS];cases h:x==y with
  |true=>
   simp only[bx,Bool.true_or,decide_eq_true_eq];omega
  |false=>
   simp only[bi,Bool.false_or];exact Sm x dQ (n+1)
theorem PU{H:J}{x:bk}{l:Nat}(N:Nat)(all:List bk)(hG:all.length<=1000)(aX:H.get l=some (.row false 1 (all.map λy=>[I.str y]))): ∀(rest pre:List bk),all=pre++rest-> ∀(m:Nat),rest.length<m->
  W (w3 (au P ao) N m (.aM l 0 all.length 1 (some all.length)) (.str x) (.int .i64 all.length) (.int .i64 pre.length) H) λv H'=>v= .int .i64 (z7 x rest pre.length)/\H'=H
 |_,_,_,0,hm=>Z
 |[],pre,bA,m+1,hm=>by
  have U: ¬((pre.length:Int)<(all.length:Int)):=by rw[bA];simp
  simp-implicitDefEqProofs(disch:=try exact ag) only[w3,u_,yY,xW,reduceAdd,reduceLeDiff,reduceIte,az,U,decide_false];exact a8.2 ⟨rfl,rfl⟩
 |y::dQ,pre,bA,m+1,hm=>by
  have U:((pre.length:Int)<(all.length:Int)):=by rw[bA];simp;omega
  have a6:(0:Int)<=(pre.length:Int):=Z;have aI:((pre.length:Int)).toNat=pre.length:=Z;have hle:pre.length<all.length:=Z;have he:(all.map λy=>[I.str y])[pre.length]? =some [I.str y]:=by rw[bA];simp
  have hw:((pre++[y]).length:Int)=((pre.length+1:Nat):Int):=by simp
  simp-implicitDefEqProofs(disch:=try exact ag) only[w3,u_,yY,xW,reduceAdd,reduceLeDiff,reduceIte,az,U,decide_true,aX,aI,he];cases aS:x==y with
  |true=>
   simp-implicitDefEqProofs(disch:=try exact ag) only[u_,yY,xW,bj,bO];exact a8.2 ⟨by simp[z7,aS],rfl⟩
  |false=>
   have aT:=PU (H:=H) (x:=x) N all hG aX dQ (pre++[y]) (by simp[bA]) m (by simp at hm;omega);rw[hw] at aT;simp-implicitDefEqProofs(disch:=try exact ag) only[u_,yY,xW,bj,bO,ei,mv];refine aT.mono ?_;rintro v H' ⟨rfl,rfl⟩;exact⟨by simp[z7,aS],rfl⟩
theorem aar{H:J}{x:bk}{l:Nat}(all:List bk)(hG:all.length<=1000)(aX:H.get l=some (.row false 1 (all.map λy=>[I.str y]))):
  W (au P ao 113 [.aM l 0 all.length 1 (some all.length),.str x] H) λv H'=>v= .bool (lj x all)/\H'=H:=by
 refine cU (λ_=>aiT 0) ?_;rw[HW];have be:W (au P ao 129 [.aM l 0 all.length 1 (some all.length),.str x] H) λv H'=>v= .int .i64 (z7 x all 0)/\H'=H:=by
  refine cU (λ_=>ai5 (all.length+1)) ?_;simp-implicitDefEqProofs(disch:=try exact ag) only[xW,reduceAdd,reduceLeDiff,reduceIte,az];exact PU (H:=H) (x:=x) (all.length+1) all hG aX all [] rfl (all.length+1) Z
 refine lz be ?_;have:=Sm x all 0;simp-implicitDefEqProofs(disch:=try exact ag) only[bj,bO,ei,this];exact a8.2 ⟨rfl,rfl⟩
theorem Qk{H:J}(aX:ko H)(x:bk):W (au P ao 97 [.str x] H) λv H'=>v= .bool (rW x)/\aR H H':=by
 refine cU (λ_=>amS 0) ?_;rw[I9];refine aY (abv aX) ?_;rintro _ _ ⟨rfl,rfl⟩;refine⟨(aR.push _ _).1,?_⟩;refine lz (aar sK cl (J.ca _ _)) ?_;exact a8.2 ⟨rfl,aR.push _ _⟩
theorem Rz: ∀(x:bk),vJ x=(runN false x==x.length)
 |[]=>rfl
 |c::r=>by
  have aT:=Rz r;rw[vJ,runN,aT,Bool.or_comm (gR c)];have bb:(gF c||(!false&&gR c))=(gF c||gR c):=by simp
  rw[bb];cases h:gF c||gR c with
  |true=>simp
  |false=>simp
theorem aci{H:J}(aX:ko H){x:bk}(af:x.length<=1000000000000000000):W (au P ao 98 [.str x] H) λv H'=>v= .bool (iz x)/\aR H H':=by
 refine cU (λ_=>amT 0) ?_;unfold iz;cases x with
 |nil=>
  have U:(([]:List UInt8)==[])=true:=rfl;simp-implicitDefEqProofs(disch:=try exact ag) only[Dg,Ef,reduceAdd,reduceLeDiff,reduceIte,az,U,Bool.not_true];exact a8.2 ⟨by simp,.refl _⟩
 |cons c r=>
  have U:((c::r)==([]:List UInt8))=false:=rfl;have cE:decide (1<=(c::r).length)=true:=by simp
  have ct:=Hp (s:=c::r) (b:=c) rfl;rw[cE];by_cases aa:(c::r).length<=8
  ·have hb:(((c::r).length:Nat):Int)<=8:=Z;generalize cR:c::r=y at*;simp-implicitDefEqProofs(disch:=try exact ag) only[Dg,Ef,reduceAdd,reduceLeDiff,reduceIte,az,U,Bool.not_false,hb,decide_true,ct];refine rC (Dq _) ?_;have bW:gR (y.headD 0)=lg (c.toNat:Int):=by rw[<-cR];rfl
   rw[bW];cases ae:lg (c.toNat:Int) with
   |false=>
    simp-implicitDefEqProofs(disch:=try exact ag) only[bj,bO];exact a8.2 ⟨by simp,.refl _⟩
   |true=>
    simp-implicitDefEqProofs(disch:=try exact ag) only[bj,bO];refine rC (Kp af false) ?_;rw[Rz];cases al:(runN false y==y.length) with
    |false=>
     have lm:(((runN false y:Nat):Int)==(y.length:Int))=false:=by
      have:runN false y≠y.length:=by simpa using al
      simp;omega
     simp-implicitDefEqProofs(disch:=try exact ag) only[reduceAdd,reduceLeDiff,reduceIte,az,lm];exact a8.2 ⟨by simp,.refl _⟩
    |true=>
     have lm:(((runN false y:Nat):Int)==(y.length:Int))=true:=by
      have:runN false y=y.length:=by simpa using al
      simp;omega
     simp-implicitDefEqProofs(disch:=try exact ag) only[reduceAdd,reduceLeDiff,reduceIte,az,lm];refine hh (Qk aX y) ?_;rintro _ bl ⟨rfl,aJ⟩;refine⟨aJ.1,?_⟩;simp-implicitDefEqProofs(disch:=try exact ag) only[bj,bO];exact a8.2 ⟨by simp[aa],aJ⟩
  ·have hb: ¬((((c::r).length:Nat):Int)<=8):=Z;generalize cR:c::r=y at*;simp-implicitDefEqProofs(disch:=try exact ag) only[Dg,Ef,reduceAdd,reduceLeDiff,reduceIte,az,U,Bool.not_false,hb,decide_false];exact a8.2 ⟨by simp[aa],.refl _⟩
def preB(s p:bk):Bool:=decide (p.length<=s.length)&&s.take p.length==p
theorem ON{H:J}(s p:bk):W (au P ao 67 [.str s,.str p] H) λv H'=>v= .bool (preB s p)/\H'=H:=by
 refine cU (λ_=>amt 0) ?_;rw[IZ];have be:W (au P ao 94 [.str s,.str p] H) λv H'=>v= .bool (preB s p)/\H'=H:=by
  refine cU (λ_=>amP 0) ?_;by_cases h:p.length<=s.length
  ·have U:((p.length:Int)<=(s.length:Int)):=Z;have fe:kh P 9 (.str s) none (some (.int .i64 (p.length:Int))) none=some (.str (s.take p.length)):=by
    have aI:hz (some (.int .i64 (p.length:Int))) s.length s.length=some p.length:=by simp[hz];omega
    simp only[kh,H5,aI];simp[hz]
   simp-implicitDefEqProofs(disch:=try exact ag) only[FP,reduceAdd,reduceLeDiff,reduceIte,az,U,decide_true,fe];exact a8.2 ⟨by simp[preB,h],rfl⟩
  ·have U: ¬((p.length:Int)<=(s.length:Int)):=Z;simp-implicitDefEqProofs(disch:=try exact ag) only[FP,reduceAdd,reduceLeDiff,reduceIte,az,U,decide_false];exact a8.2 ⟨by simp[preB,h],rfl⟩
 refine lz be ?_;exact a8.2 ⟨rfl,rfl⟩
end Go.Proofs.YtghmbpmaafnodaaGreatDoor.jv
