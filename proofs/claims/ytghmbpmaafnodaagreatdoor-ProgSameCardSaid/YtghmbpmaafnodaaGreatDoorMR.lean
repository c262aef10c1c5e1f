/-
  Texts of one proof, laid together: A2 A3 A4 A5 Lz Qi Qj ShU N1 ShUa N1b.
-/
import Derived.Test.YtghmbpmaafnodaaGreatDoorMP
import Derived.Test.YtghmbpmaafnodaaGreatDoorMO
import Derived.Test.YtghmbpmaafnodaaGreatDoorMD
import Derived.Test.YtghmbpmaafnodaaGreatDoorMK
import Derived.Test.YtghmbpmaafnodaaGreatDoorMN
import Derived.Test.YtghmbpmaafnodaaGreatDoorMH
set_option linter.unusedVariables false
set_option linter.unusedSimpArgs false
namespace Go.Proofs.YtghmbpmaafnodaaGreatDoor.jv
open Go.f7
open Nat (reduceAdd reduceLeDiff)
section
theorem Tz{H:J}(s:bk)(c:UInt8):au P ao 66 [.str s,.int .u8 c.toNat] H=some (.int .i64 (Lib.indexByte s c),H):=by
 refine GS ?_;show some (I.int .i64 (Lib.indexByte s (Int.toNat (c.toNat:Int)).toUInt8),H)=_;have:(Int.toNat (c.toNat:Int)).toUInt8=c:=by simp
 rw[this]
theorem an6{H:J}(s:bk):au P ao 66 [.str s,.int .u8 10] H=some (.int .i64 (Lib.indexByte s 10),H):=Tz s 10
theorem afv(c:UInt8):decide (0<=Lib.indexByte [32,9,10,13] c)=n4 c:=by
 have h: ∀n:Fin 256,decide (0<=Lib.indexByte [32,9,10,13] (UInt8.ofNat n.val))=n4 (UInt8.ofNat n.val):=by decide+kernel
 have:=h ⟨c.toNat,c.toNat_lt⟩;simpa using this
theorem Wp(s:bk):Lib.indexByte s 10= -1\/ ∃n:Nat,Lib.indexByte s 10=n/\n<s.length:=by
 induction s with
 |nil=>exact .inl rfl
 |cons b l aT=>
  rw[Lib.indexByte];split
  ·exact .inr ⟨0,rfl,by simp⟩
  ·split
   ·exact .inl rfl
   ·rename_i h;rcases aT with aT|⟨n,e,aV⟩
    ·rw[aT] at h;exact absurd rfl h
    ·exact .inr ⟨n+1,Z,by simpa using aV⟩
theorem P8: ∀(s:bk),(Lib.indexByte s 10= -1->dY true s=s.length)/\ ∀n:Nat,Lib.indexByte s 10=n->dY true s=n+dY false (s.drop n)
 |[]=>⟨λ_=>rfl,λn h=>by simp[Lib.indexByte] at h⟩
 |b::l=>by
  obtain⟨ih1,ih2⟩:=P8 l;rw[Lib.indexByte,dY];by_cases ay:b=10
  ·subst ay;simp only[beq_self_eq_true,if_true];refine⟨λh=>Z,λn h=> ?_⟩;obtain rfl:n=0:=Z;have U:(UInt8.toNat 10==10)=true:=rfl;have aa:n4 10=true:=rfl;rw[List.drop_zero,dY,U,aa];simp
  ·have U:(b==10)=false:=by simpa using ay
   have aa:(b.toNat==10)=false:=by
    have:b.toNat≠10:=λe=>ay (UInt8.toNat_inj.1 (by rw[e];rfl))
    simpa using this
   rw[U,aa];simp only[Bool.false_eq_true,if_false,bi];rcases Wp l with h|⟨k,h,ah⟩
   ·rw[h];simp only[beq_self_eq_true,if_true];refine⟨λ_=> ?_,λn e=> ?_⟩
    ·rw[ih1 h,List.length_cons]
    ·exfalso;omega
   ·rw[h];have ae:((k:Int)== -1)=false:=by simp
    rw[ae];simp only[Bool.false_eq_true,if_false];refine⟨λe=>Z,λn e=> ?_⟩;obtain rfl:n=k+1:=Z;rw[ih2 k h,List.drop_succ_cons];omega
theorem aoc(c:UInt8)(r:bk):preB (c::r) [47,47]=(c==47&&r.head?==some 47):=by
 cases r with
 |nil=>simp[preB]
 |cons d q=>
  simp only[preB,List.length_cons,List.length_nil,List.take_succ_cons,List.take_zero,List.head?_cons];cases U:c==47<;>cases aa:d==47<;>simp_all
theorem SB{s:bk}{a:Nat}(h:a<=s.length):kh P 9 (.str s) (some (.int .i64 (a:Int))) none none=some (.str (s.drop a)):=by
 have bc:hz (some (.int .i64 (a:Int))) 0 s.length=some a:=by simp[hz];omega
 have aI:hz none s.length s.length=some s.length:=rfl;simp only[kh,H5,aI,bc];rw[List.take_of_length_le (by simp)]
theorem VR{s:bk}{b:Nat}(h:b<=s.length):kh P 9 (.str s) none (some (.int .i64 (b:Int))) none=some (.str (s.take b)):=by
 have aI:hz (some (.int .i64 (b:Int))) s.length s.length=some b:=by simp[hz];omega
 have bc:hz none 0 b=some 0:=rfl;simp only[kh,H5,aI,bc,List.drop_zero,Nat.sub_zero]
theorem JV{H:J}{s:bk}(aO:s.length<=1000000000000000000)(N:Nat): ∀(m:Nat) (rest:bk) (at_:Nat),s.drop at_=rest->at_<=s.length->rest.length<m->
  W (xi (au P ao) N m (.str s) (.int .i64 at_) H) λv H'=>v= .int .i64 ((at_+dY false rest:Nat):Int)/\H'=H
 |0,_,_,_,_,hm=>Z
 |m+1,[],at_,h,b1,hm=>by
  have:=drop_nil h;have U: ¬((at_:Int)<(s.length:Int)):=Z;simp-implicitDefEqProofs(disch:=try exact ag) only[xi,zr,Ed,Dc,reduceAdd,reduceLeDiff,reduceIte,az,U,decide_false];exact a8.2 ⟨by simp[dY],rfl⟩
 |m+1,c::r,at_,h,b1,hm=>by
  obtain⟨aI,bc,dm,eS⟩:=drop_cons h;have U:((at_:Int)<(s.length:Int)):=Z;have ha:=pk aI;have fe:=SB (s:=s) (a:=at_) Z;rw[h] at fe;have apd:=afv c;rw[dY];simp only[List.length_cons] at hm;simp-implicitDefEqProofs(disch:=try exact ag) only[xi,zr,Ed,Dc,reduceAdd,reduceLeDiff,reduceIte,az,U,decide_true,ha,Tz,aL,bL,apd];cases oG:n4 c with
  |true=>
   simp-implicitDefEqProofs(disch:=try exact ag) only[bj,bO,ei,mv];refine(JV (H:=H) aO N m r (at_+1) bc Z Z).mono ?_;rintro v H' ⟨rfl,rfl⟩;have cC:at_+1+dY false r=at_+(dY false r+1):=Z;exact⟨by rw[cC],rfl⟩
  |false=>
   simp-implicitDefEqProofs(disch:=try exact ag) only[bj,bO,fe];refine lz (ON _ _) ?_;rw[aoc];cases bA:(c==47&&r.head?==some 47) with
   |false=>
    simp-implicitDefEqProofs(disch:=try exact ag) only[bj,bO];exact a8.2 ⟨by simp,rfl⟩
   |true=>
    have aS:(c::r).head?=some 47:=by
     have:c=47:=by have:=(Bool.and_eq_true _ _▸bA).1;exact eq_of_beq this
     rw[this];rfl
    have Ap:dY true (c::r)=dY true r+1:=by
     have:c=47:=by simpa using aS
     subst this;rw[dY];rfl
    rw[bx,<-Ap];obtain⟨cE,cx⟩:=P8 (c::r);simp-implicitDefEqProofs(disch:=try exact ag) only[bj,bO,fe,an6,aL,bL,decide_true];rcases Wp (c::r) with be|⟨n,be,aV⟩
    ·have eo:((-1:Int)<0):=Z;rw[be];simp-implicitDefEqProofs(disch:=try exact ag) only[reduceAdd,reduceLeDiff,reduceIte,az,eo,decide_true];refine a8.2 ⟨?_,rfl⟩;rw[cE be];have:at_+(c::r).length=s.length:=by simp only[List.length_cons];omega
     rw[this]
    ·have eo: ¬((n:Int)<0):=Z;rw[be];have Fl:1<=n:=by
      rcases Nat.eq_zero_or_pos n with rfl|bZ
      ·exfalso;have:c=47:=by simpa using aS
       subst this;rw[Lib.indexByte] at be;rw[if_neg cl] at be;have:=Lib.indexByte_ge r 10;split at be
       ·omega
       ·rename_i af;have:Lib.indexByte r 10≠ -1:=by simpa using af
        omega
      ·exact bZ
     have ao7:s.drop (at_+n)=(c::r).drop n:=by rw[<-List.drop_drop,h]
     simp only[List.length_cons] at aV;simp-implicitDefEqProofs(disch:=try exact ag) only[reduceAdd,reduceLeDiff,reduceIte,az,eo,decide_false,sh];refine(JV (H:=H) aO N m ((c::r).drop n) (at_+n) ao7 Z (by simp;omega)).mono ?_;rintro v H' ⟨rfl,rfl⟩;rw[cx n be,Nat.add_assoc];exact⟨rfl,rfl⟩
theorem PF{H:J}{s:bk}(aO:s.length<=1000000000000000000){at_:Nat}(b1:at_<=s.length):W (au P ao 46 [.str s,.int .i64 at_] H) λv H'=>v= .int .i64 ((at_+dY false (s.drop at_):Nat):Int)/\H'=H:=by
 refine cU (λ_=>ama (s.length+1)) ?_;rw[Dc];exact JV aO (s.length+1) (s.length+1) (s.drop at_) at_ rfl b1 (by simp;omega)
end
section
theorem TO: ∀(x:bk) (a:Nat),(∀c∈x,gF c=true)->Lib.parseUint10 a x= .range\/ ∃u,Lib.parseUint10 a x= .ok u/\a<=u
 |[],a,_=> .inr ⟨a,rfl,bL _⟩
 |c::r,a,h=>by
  have bb:=h c (by simp);simp only[gF,ox,Bool.and_eq_true,decide_eq_true_eq] at bb;rw[Lib.parseUint10,if_pos ⟨Z,Z⟩];split
  ·exact .inl rfl
  ·split
   ·exact .inl rfl
   ·rcases TO r (a*10+(c.toNat-48)) (λd bb=>h d (by simp[bb])) with bZ|⟨u,U,aa⟩
    ·exact .inl bZ
    ·exact .inr ⟨u,U,Z⟩
theorem So: ∀(x:bk) (a:Nat),(∀c∈x,gF c=true)->a<9223372036854775808->
  (∀v,kH a x=some v-> ∃u:Nat,Lib.parseUint10 a x= .ok u/\(u:Int)=v/\u<9223372036854775808)/\(kH a x=none->Lib.parseUint10 a x= .range\/ ∃u,Lib.parseUint10 a x= .ok u/\9223372036854775808<=u)
 |[],a,_,b1=>⟨λv h=>by rw[kH] at h;cases h;exact⟨a,rfl,rfl,b1⟩,λh=>by rw[kH] at h;cases h⟩
 |c::r,a,h,b1=>by
  have bb:=h c (by simp);simp only[gF,ox,Bool.and_eq_true,decide_eq_true_eq] at bb;have a7: ∀d∈r,gF d=true:=λd bb=>h d (by simp[bb])
  have F0:Lib.parseUint10 a (c::r)=if 1844674407370955162<=a then .range else if 18446744073709551616<=a*10+(c.toNat-48) then .range else Lib.parseUint10 (a*10+(c.toNat-48)) r:=by
   rw[Lib.parseUint10,if_pos ⟨Z,Z⟩]
  rw[kH,F0];have aI:(10*(a:Int)+((c.toNat:Int)-48))=((a*10+(c.toNat-48):Nat):Int):=Z;by_cases Wl:(9223372036854775807-((c.toNat:Int)-48))/10<(a:Int)
  ·rw[if_pos Wl];refine⟨λv h=>(by cases h),λ_=> ?_⟩;split
   ·exact .inl rfl
   ·split
    ·exact .inl rfl
    ·rcases TO r (a*10+(c.toNat-48)) a7 with bZ|⟨u,U,aa⟩
     ·exact .inl bZ
     ·exact .inr ⟨u,U,Z⟩
  ·rw[if_neg Wl,if_neg Z,if_neg Z,aI];exact So r (a*10+(c.toNat-48)) a7 Z
theorem afs{c:UInt8}{r:bk}(h: ∀d∈c::r,gF d=true):(∀v,kH 0 (c::r)=some v->Lib.atoiAll (c::r)= .ok v)/\(kH 0 (c::r)=none->Lib.atoiAll (c::r)= .range):=by
 have bb:=h c (by simp);simp only[gF,ox,Bool.and_eq_true,decide_eq_true_eq] at bb;have M8: ¬c.toNat=43:=Z;have Ii: ¬c.toNat=45:=Z;obtain⟨cE,cx⟩:=So (c::r) 0 h Z;have nT:((0:Nat):Int)=0:=rfl;rw[nT] at cE cx;have hm:Lib.parseMag (c::r)=Lib.parseUint10 0 (c::r):=by rw[Lib.parseMag,if_neg (by simp)]
 constructor
 ·intro v bw;obtain⟨u,U,aa,ae⟩:=cE v bw;have hY: ¬(9223372036854775808<=u):=Z;simp only[Lib.atoiAll,M8,Ii,or_self,if_false,hm,U,hY,not_false_eq_true,true_and,false_and,and_false];rw[aa]
 ·intro bw;rcases cx bw with U|⟨u,U,aa⟩
  ·simp only[Lib.atoiAll,M8,Ii,or_self,if_false,hm,U]
  ·simp only[Lib.atoiAll,M8,Ii,or_self,if_false,hm,U,Ii,not_false_eq_true,true_and];rw[if_pos aa]
theorem agC{H:J}(aX:ko H){s:bk}(aO:s.length<=281474976710656){v:Int}(h:Lib.atoiAll s= .ok v):au P ao 99 [.str s] H=some (.tuple [.int .i64 v,.nilIface],H):=by
 refine GS ?_;refine(if_pos ⟨aO,aX.err⟩).trans ?_;rw[h]
theorem abW{H:J}(aX:ko H){s:bk}(aO:s.length<=281474976710656)(h:Lib.atoiAll s= .range):au P ao 99 [.str s] H=some (.tuple [.int .i64 (Lib.atoiSat s),.iface 152 (.ptr H.next 0 0)],H.push .dead):=by
 refine GS ?_;refine(if_pos ⟨aO,aX.err⟩).trans ?_;rw[h]
theorem alD:aZ P .neq 126 true .nilIface .nilIface=some (.bool false):=ad
theorem alC(l:Nat):aZ P .neq 126 true (.iface 152 (.ptr l 0 0)) .nilIface=some (.bool true):=ad
theorem Sx: ∀(s:bk),∀c∈s.take (runN true s),gF c=true
 |[],c,h=>by simp[runN] at h
 |b::r,c,h=>by
  rw[runN] at h;cases ay:gF b with
  |false=>rw[ay] at h;simp at h
  |true=>
   rw[ay] at h;simp only[Bool.true_or,bx,List.take_succ_cons,List.mem_cons] at h;rcases h with rfl|h
   ·exact ay
   ·exact Sx r c h
theorem Lq(k:Int)(x:bk):cM P 57 [(0,.int .i64 k),(1,.str x)]=some (.agg [.int .i64 k,.str x,.int .i64 0,.int .i64 0]):=ad
theorem G3(k:Int)(z:Int):cM P 57 [(0,.int .i64 k),(2,.int .i64 z)]=some (.agg [.int .i64 k,.str [],.int .i64 z,.int .i64 0]):=ad
def vO(s:bk):Option (Int×bk×Int×Nat):=match kH 0 (s.take (runN true s)) with
 |none=>none
 |some v=>bif (decide (1<runN true s)&&(s.headD 0).toNat==48)||(decide (runN true s<s.length)&&gR ((s[runN true s]?).getD 0)) then none else some (2,[],v,runN true s)
theorem aby{H:J}(aX:ko H){s:bk}(aO:s.length<=281474976710656){c:UInt8}{r:bk}(aS:s=c::r)(bb:gF c=true):W (au P ao 71 [.str s] H) λv H'=>v=uw 0 (vO s)/\aR H H':=by
 refine cU (λ_=>amx 0) ?_;have mT:ko (H.push (.row false 4 [[.int .i64 0,.str [],.int .i64 0,.int .i64 0]])):=aX.aK (aR.push _ _);have hle:=DY true s;have oC:1<=runN true s:=by rw[aS];exact KQ true c r (by simp[bb])
 have fe:=VR (s:=s) (b:=runN true s) hle;have ct:s[0]? =some c:=by rw[aS];rfl
 have nT:=Hp ct;have Xd:=Sx s;have YX:s.headD 0=c:=by rw[aS];rfl
 obtain⟨hH,iQ⟩: ∃hH,s.take (runN true s)=c::hH:=by
  rw[aS] at oC ⊢;obtain⟨k,ah⟩: ∃k,runN true (c::r)=k+1:=⟨runN true (c::r)-1,Z⟩;rw[ah];exact⟨_,rfl⟩
 rw[iQ] at Xd;obtain⟨cE,cx⟩:=afs Xd;have eo:(s.take (runN true s)).length<=281474976710656:=by simp;omega
 simp-implicitDefEqProofs(disch:=try exact ag) only[I3,reduceAdd,reduceLeDiff,reduceIte,az];refine lz (Kp (s:=s) Z true) ?_;generalize aoV:H.push (.row false 4 [[.int .i64 0,.str [],.int .i64 0,.int .i64 0]])=H1 at mT ⊢;have aU:aR (H.push (.row false 4 [[.int .i64 0,.str [],.int .i64 0,.int .i64 0]])) H1:=by rw[aoV];exact .refl _
 have g1:H1.get H.next=some (.row false 4 [[.int .i64 0,.str [],.int .i64 0,.int .i64 0]]):=aU.get (J.ca _ _)
 have art:=J.aW g1;have z6: ∀b,aR H (H1.set H.next b):=λb=>((aR.push _ _).trans aU).de (bL _) b
 cases bw:kH 0 (s.take (runN true s)) with
 |none=>
  have b1:=abW mT eo (by rw[iQ] at bw ⊢;exact cx bw);simp-implicitDefEqProofs(disch:=try exact ag) only[reduceAdd,reduceLeDiff,reduceIte,az,fe,b1,aL,Nat.le_succ,decide_true,alC,g1];have dX:vO s=none:=by unfold vO;rw[bw]
  exact a8.2 ⟨by rw[dX];rfl,(((aR.push _ _).trans aU).bV _).de (bL _) _⟩
 |some v=>
  have b1:=agC mT eo (by rw[iQ] at bw ⊢;exact cE v bw);simp-implicitDefEqProofs(disch:=try exact ag) only[reduceAdd,reduceLeDiff,reduceIte,az,fe,b1,aL,bL,decide_true,alD];have C0:decide ((1:Int)<((runN true s:Nat):Int))=decide (1<runN true s):=by
   by_cases h:1<runN true s<;>simp[h]<;>omega
  have jO:decide (((runN true s:Nat):Int)<(s.length:Int))=decide (runN true s<s.length):=by
   by_cases h:runN true s<s.length<;>simp[h]<;>omega
  have An:(((c.toNat:Nat):Int)==48)=(c.toNat==48):=by
   cases h:c.toNat==48 with
   |true=>have:c.toNat=48:=eq_of_beq h;rw[this];rfl
   |false=>
    have:c.toNat≠48:=by simpa using h
    simp;omega
  have bad:((decide (1<runN true s)&&(c.toNat==48))||(decide (runN true s<s.length)&&gR ((s[runN true s]?).getD 0)))=true->vO s=none:=by
   intro af;unfold vO;rw[bw];simp only[YX,af,bx]
  have oB:((decide (1<runN true s)&&(c.toNat==48))||(decide (runN true s<s.length)&&gR ((s[runN true s]?).getD 0)))=false->vO s=some (2,[],v,runN true s):=by
   intro af;unfold vO;rw[bw];simp only[YX,af,bi]
  have ak_:(decide (1<runN true s)=true/\(c.toNat==48)=true)\/(decide (1<runN true s)=true/\(c.toNat==48)=false)\/decide (1<runN true s)=false:=by
   cases decide (1<runN true s)<;>cases c.toNat==48<;>simp
  rcases ak_ with⟨cD,b3⟩|⟨cD,b3⟩|cD
  ·simp-implicitDefEqProofs(disch:=try exact ag) only[reduceAdd,reduceLeDiff,reduceIte,az,C0,cD,nT,An,b3,g1];exact a8.2 ⟨by rw[bad (by rw[cD,b3];rfl)];rfl,z6 _⟩
  ·rw[cD,b3] at bad oB;simp-implicitDefEqProofs(disch:=try exact ag) only[reduceAdd,reduceLeDiff,reduceIte,az,C0,cD,nT,An,b3,jO];cases ez:decide (runN true s<s.length) with
   |false=>
    rw[ez] at oB;simp-implicitDefEqProofs(disch:=try exact ag) only[reduceAdd,reduceLeDiff,reduceIte,az,G3,g1];exact a8.2 ⟨by rw[oB rfl];rfl,z6 _⟩
   |true=>
    rw[ez] at bad oB;have Mt:runN true s<s.length:=of_decide_eq_true ez;obtain⟨d,gT⟩: ∃d,s[runN true s]? =some d:=⟨_,List.getElem?_eq_getElem Mt⟩;have Al:=pk gT;rw[gT] at bad oB;simp-implicitDefEqProofs(disch:=try exact ag) only[reduceAdd,reduceLeDiff,reduceIte,az,Al];refine rC (Dq _) ?_;have bW:gR ((some d).getD 0)=lg (d.toNat:Int):=rfl;rw[bW] at bad oB;cases aG:lg (d.toNat:Int) with
    |true=>
     rw[aG] at bad;simp-implicitDefEqProofs(disch:=try exact ag) only[reduceAdd,reduceLeDiff,reduceIte,az,g1];exact a8.2 ⟨by rw[bad rfl];rfl,z6 _⟩
    |false=>
     rw[aG] at oB;simp-implicitDefEqProofs(disch:=try exact ag) only[reduceAdd,reduceLeDiff,reduceIte,az,G3,g1];exact a8.2 ⟨by rw[oB rfl];rfl,z6 _⟩
  ·rw[cD] at bad oB;simp-implicitDefEqProofs(disch:=try exact ag) only[reduceAdd,reduceLeDiff,reduceIte,az,C0,cD,nT,An,jO];cases ez:decide (runN true s<s.length) with
   |false=>
    rw[ez] at oB;simp-implicitDefEqProofs(disch:=try exact ag) only[reduceAdd,reduceLeDiff,reduceIte,az,G3,g1];exact a8.2 ⟨by rw[oB rfl];rfl,z6 _⟩
   |true=>
    rw[ez] at bad oB;have Mt:runN true s<s.length:=of_decide_eq_true ez;obtain⟨d,gT⟩: ∃d,s[runN true s]? =some d:=⟨_,List.getElem?_eq_getElem Mt⟩;have Al:=pk gT;rw[gT] at bad oB;simp-implicitDefEqProofs(disch:=try exact ag) only[reduceAdd,reduceLeDiff,reduceIte,az,Al];refine rC (Dq _) ?_;have bW:gR ((some d).getD 0)=lg (d.toNat:Int):=rfl;rw[bW] at bad oB;cases aG:lg (d.toNat:Int) with
    |true=>
     rw[aG] at bad;simp-implicitDefEqProofs(disch:=try exact ag) only[reduceAdd,reduceLeDiff,reduceIte,az,g1];exact a8.2 ⟨by rw[bad rfl];rfl,z6 _⟩
    |false=>
     rw[aG] at oB;simp-implicitDefEqProofs(disch:=try exact ag) only[reduceAdd,reduceLeDiff,reduceIte,az,G3,g1];exact a8.2 ⟨by rw[oB rfl];rfl,z6 _⟩
end
section
def BZ(s:bk):Option (Int×bk×Int×Nat):=bif rW (s.take (runN false s)) then some (3,s.take (runN false s),0,runN false s) else bif iz (s.take (runN false s)) then some (1,s.take (runN false s),0,runN false s) else none
theorem acm{H:J}(aX:ko H){s:bk}(aO:s.length<=281474976710656):W (au P ao 69 [.str s] H) λv H'=>v=uw 0 (BZ s)/\aR H H':=by
 refine cU (λ_=>amv 0) ?_;have mT:ko (H.push (.row false 4 [[.int .i64 0,.str [],.int .i64 0,.int .i64 0]])):=aX.aK (aR.push _ _);have hle:=DY false s;have fe:=VR (s:=s) (b:=runN false s) hle;have eo:(s.take (runN false s)).length<=1000000000000000000:=by simp;omega
 simp-implicitDefEqProofs(disch:=try exact ag) only[I1,reduceAdd,reduceLeDiff,reduceIte,az];refine lz (Kp (s:=s) Z false) ?_;simp-implicitDefEqProofs(disch:=try exact ag) only[reduceAdd,reduceLeDiff,reduceIte,az,fe];refine aY (Qk mT _) ?_;rintro _ bl ⟨rfl,aJ⟩;refine⟨aJ.1,?_⟩;have g2:bl.get H.next=some (.row false 4 [[.int .i64 0,.str [],.int .i64 0,.int .i64 0]]):=aJ.get (J.ca _ _)
 have Ih:=J.aW g2;have ap8: ∀b,aR H (bl.set H.next b):=λb=>((aR.push _ _).trans aJ).de (bL _) b
 cases hw:rW (s.take (runN false s)) with
 |true=>
  simp-implicitDefEqProofs(disch:=try exact ag) only[reduceAdd,reduceLeDiff,reduceIte,az,Lq,g2];exact a8.2 ⟨by rw[BZ,hw];rfl,ap8 _⟩
 |false=>
  simp-implicitDefEqProofs(disch:=try exact ag) only[bj,bO];refine aY (aci (mT.aK aJ) eo) ?_;rintro _ cQ ⟨rfl,bz⟩;refine⟨bz.1,?_⟩;have g3:=bz.get g2;have aru:=J.aW g3;have Zw: ∀b,aR H (cQ.set H.next b):=λb=>(((aR.push _ _).trans aJ).trans bz).de (bL _) b
  cases aV:iz (s.take (runN false s)) with
  |true=>
   simp-implicitDefEqProofs(disch:=try exact ag) only[reduceAdd,reduceLeDiff,reduceIte,az,Lq,g3];exact a8.2 ⟨by rw[BZ,hw,aV];rfl,Zw _⟩
  |false=>
   simp-implicitDefEqProofs(disch:=try exact ag) only[reduceAdd,reduceLeDiff,reduceIte,az,g3];exact a8.2 ⟨by rw[BZ,hw,aV];rfl,Zw _⟩
def oq(s:bk):List bk->Option (Int×bk×Int×Nat)
 |[]=>none
 |y::dQ=>bif preB s y then some (4,y,0,y.length) else oq s dQ
theorem QX(s:bk): ∀(l m:List bk),oq s (l++m)=(oq s l).or (oq s m)
 |[],m=>rfl
 |y::dQ,m=>by
  rw[List.cons_append,oq,oq,QX s dQ m];cases preB s y<;>rfl
theorem QZ(s:bk): ∀(l:List bk),(∀y∈l,y.length=2)->oq s l=bif decide (2<=s.length)&&lj (s.take 2) l then some (4,s.take 2,0,2) else none
 |[],_=>by simp[oq,lj]
 |y::dQ,h=>by
  have cR:=h y (by simp);rw[oq,lj,QZ s dQ λz ct=>h z (by simp[ct]),preB,cR];cases aa:decide (2<=s.length) with
  |false=>simp
  |true=>
   have aS:(s.take 2==y)=(y==s.take 2):=by
    cases bZ:y==s.take 2 with
    |true=>rw[<-eq_of_beq bZ];simp
    |false=>
     have:y≠s.take 2:=by simpa using bZ
     simpa using λe:s.take 2=y=>this e.symm
   rw[aS];cases ae:y==s.take 2 with
   |true=>rw[<-eq_of_beq ae];simp
   |false=>simp
theorem QY(c:UInt8)(r:bk): ∀(l:bk),oq (c::r) (l.map λy=>[y])=bif o6 c l then some (4,[c],0,1) else none
 |[]=>rfl
 |y::dQ=>by
  rw[List.map_cons,oq,o6,QY c r dQ];have bA:preB (c::r) [y]=(c.toNat==y.toNat):=by
   simp only[preB,List.length_cons,List.length_nil,List.take_succ_cons,List.take_zero];cases h:c.toNat==y.toNat with
   |true=>
    have:c=y:=UInt8.toNat_inj.1 (eq_of_beq h);simp[this]
   |false=>
    have:c≠y:=by rintro rfl;simp at h
    simp[this]
  rw[bA];cases h:c.toNat==y.toNat with
  |true=>
   have:c=y:=UInt8.toNat_inj.1 (eq_of_beq h);simp[this]
  |false=>simp
theorem abI(c:UInt8)(r:bk):oq (c::r) vC=bif lh (c::r)==[] then none else some (4,lh (c::r),0,(lh (c::r)).length):=by
 have e:vC=o2++mc.map λy=>[y]:=rfl
 rw[e,QX,QZ _ o2 cl,QY];unfold lh;cases h:decide (2<=(c::r).length)&&lj ((c::r).take 2) o2 with
 |true=>
  have aa:2<=(c::r).length:=of_decide_eq_true ((Bool.and_eq_true _ _).mp h).1;cases r with
  |nil=>simp at aa
  |cons d q=>rfl
 |false=>
  cases hm:o6 c mc<;>simp[hm]
theorem Rn{H0 H:J}{s:bk}{L:Nat}(N:Nat)(all:List bk)(hG:all.length<=1000)(aX:H.get L=some (.row false 1 (all.map λy=>[I.str y])))(af:H.get H0.next=some (.row false 4 [[.int .i64 0,.str [],.int .i64 0,.int .i64 0]]))(nf: ∀b,aR H0 (H.set H0.next b)):
  ∀(rest pre:List bk),all=pre++rest-> ∀(m:Nat),rest.length<m->
  W (xk (au P ao) N m (.str s) (.ptr H0.next 0 0) (.aM L 0 all.length 1 (some all.length)) (.int .i64 all.length) (.int .i64 pre.length) H) λv H'=>v=uw 0 (oq s rest)/\aR H0 H'
 |_,_,_,0,hm=>Z
 |[],pre,bA,m+1,hm=>by
  have U: ¬((pre.length:Int)<(all.length:Int)):=by rw[bA];simp
  have sj:=J.aW af;simp-implicitDefEqProofs(disch:=try exact ag) only[xk,xj,B4,Dd,reduceAdd,reduceLeDiff,reduceIte,az,U,decide_false,af];exact a8.2 ⟨rfl,nf _⟩
 |y::dQ,pre,bA,m+1,hm=>by
  have U:((pre.length:Int)<(all.length:Int)):=by rw[bA];simp;omega
  have a6:(0:Int)<=(pre.length:Int):=Z;have aI:((pre.length:Int)).toNat=pre.length:=Z;have hle:pre.length<all.length:=Z;have he:(all.map λy=>[I.str y])[pre.length]? =some [I.str y]:=by rw[bA];simp
  have hw:((pre++[y]).length:Int)=((pre.length+1:Nat):Int):=by simp
  have sj:=J.aW af;simp-implicitDefEqProofs(disch:=try exact ag) only[xk,xj,B4,Dd,reduceAdd,reduceLeDiff,reduceIte,az,U,decide_true,aX,aI,he];refine lz (ON s y) ?_;cases aS:preB s y with
  |true=>
   simp-implicitDefEqProofs(disch:=try exact ag) only[reduceAdd,reduceLeDiff,reduceIte,az,Lq,af];exact a8.2 ⟨by rw[oq,aS];rfl,nf _⟩
  |false=>
   have aT:=Rn (s:=s) N all hG aX af nf dQ (pre++[y]) (by simp[bA]) m (by simp at hm;omega);rw[hw] at aT;simp-implicitDefEqProofs(disch:=try exact ag) only[bj,bO,ei,mv];refine aT.mono ?_;rintro v H' ⟨rfl,p⟩;exact⟨by rw[oq,aS];rfl,p⟩
theorem adN{H:J}(aX:ko H){s:bk}(aO:s.length<=281474976710656){c:UInt8}{r:bk}(aS:s=c::r):W (au P ao 47 [.str s] H) λv H'=>v=uw 0 (jM s)/\aR H H':=by
 refine cU (λ_=>amb 24) ?_;have mT:ko (H.push (.row false 4 [[.int .i64 0,.str [],.int .i64 0,.int .i64 0]])):=aX.aK (aR.push _ _);have nT:=Hp (s:=s) (b:=c) (by rw[aS];rfl);have dF:gR c=lg (c.toNat:Int):=rfl;have nE:gF c=ox (c.toNat:Int):=rfl;have put: ∀{bl:J} (x:Option (Int×bk×Int×Nat)),aR (H.push (.row false 4 [[.int .i64 0,.str [],.int .i64 0,.int .i64 0]])) bl-> ∃a b Oe m,uw 0 x= .tuple [.agg [.int .i64 a,.str b,.int .i64 Oe,.int .i64 0],.int .i64 m]:=λx _=>by
  cases x with
  |none=>exact⟨0,[],0,0,rfl⟩
  |some q=>exact⟨q.1,q.2.1,q.2.2.1,q.2.2.2,rfl⟩
 simp-implicitDefEqProofs(disch:=try exact ag) only[xj,B4,Dd,reduceAdd,reduceLeDiff,reduceIte,az,nT];refine lz (Dq _) ?_;cases ax:lg (c.toNat:Int) with
 |true=>
  have bs:jM s=BZ s:=by rw[aS,jM,dF,ax];rfl
  rw[bs];simp-implicitDefEqProofs(disch:=try exact ag) only[bj,bO];refine aY (acm mT aO) ?_;rintro _ bl ⟨rfl,aJ⟩;refine⟨aJ.1,?_⟩;have g2:=aJ.get (J.ca H (.row false 4 [[.int .i64 0,.str [],.int .i64 0,.int .i64 0]]));have Ih:=J.aW g2;obtain⟨a,b,Oe,m,af⟩:=put (BZ s) aJ;rw[af];simp-implicitDefEqProofs(disch:=try exact ag) only[reduceAdd,reduceLeDiff,reduceIte,az,g2];exact a8.2 ⟨rfl,((aR.push _ _).trans aJ).de (bL _) _⟩
 |false=>
  simp-implicitDefEqProofs(disch:=try exact ag) only[bj,bO,nT];refine lz (JH _) ?_;cases bb:ox (c.toNat:Int) with
  |true=>
   have bs:jM s=vO s:=by
    rw[aS,jM,dF,ax,nE,bb];rfl
   rw[bs];simp-implicitDefEqProofs(disch:=try exact ag) only[bj,bO];refine aY (aby mT aO aS (by rw[nE,bb])) ?_;rintro _ bl ⟨rfl,aJ⟩;refine⟨aJ.1,?_⟩;have g2:=aJ.get (J.ca H (.row false 4 [[.int .i64 0,.str [],.int .i64 0,.int .i64 0]]));have Ih:=J.aW g2;obtain⟨a,b,Oe,m,af⟩:=put (vO s) aJ;rw[af];simp-implicitDefEqProofs(disch:=try exact ag) only[reduceAdd,reduceLeDiff,reduceIte,az,g2];exact a8.2 ⟨rfl,((aR.push _ _).trans aJ).de (bL _) _⟩
  |false=>
   have bs:jM s=oq s vC:=by
    rw[aS,abI,jM,dF,ax,nE,bb];rfl
   rw[bs];simp-implicitDefEqProofs(disch:=try exact ag) only[bj,bO];refine aY (abu mT) ?_;rintro _ _ ⟨rfl,rfl⟩;refine⟨(aR.push _ _).1,?_⟩;simp-implicitDefEqProofs(disch:=try exact ag) only[bj,fE,bj,bO];refine Rn (H0:=H) 24 vC cl (J.ca _ _) ?_ (λb=>((aR.push _ _).bV _).de (bL _) b) vC [] rfl 24 cl;simp-implicitDefEqProofs(disch:=try exact ag) only[dD]
end
section
theorem Q_{H0:J}(YV:ko H0){s:bk}(aO:s.length<=6000)(N:Nat): ∀(n:Nat) (rest:bk) (at_ m:Nat) (T:List Tok) (v:I) (H:J),s.drop at_=rest->at_<=s.length->vY (H0.push (.row false 2 [[.int .i64 0,.int .i64 0]])) H v T->aR (H0.push (.row false 2 [[.int .i64 0,.int .i64 0]])) H->T.length<=at_->rest.length<n->rest.length<m->
  W (xf (au P ao) N m (.str s) (.ptr H0.next 0 0) v (.int .i64 at_) H) (GQ H0 (rZ T (hW n rest at_)))
 |0,_,_,_,_,_,_,_,_,_,_,_,aV,_=>Z
 |_,_,_,0,_,_,_,_,_,_,_,_,_,hm=>Z
 |n+1,[],at_,m+1,T,v,H,h,b1,ay,p,aH,aV,hm=>by
  have hlen:=drop_nil h;have U: ¬((at_:Int)<(s.length:Int)):=Z;have CR:s.length=at_:=Z;have g:H.get H0.next=some (.row false 2 [[.int .i64 0,.int .i64 0]]):=p.get (J.ca _ _)
  have sj:=J.aW g;obtain⟨dr,H',gU,hZ,qz,s9,Ek⟩:=GR ay p Z ⟨0,[],0,s.length⟩;have fe:=He H.next ⟨0,[],0,s.length⟩
  simp only[Tok.v] at fe;simp-implicitDefEqProofs(disch:=try exact ag) only[xf,rG,vi,uJ,reduceAdd,reduceLeDiff,reduceIte,az,U,decide_false,V8,fe,gU,ks];have g':H'.get H0.next=some (.row false 2 [[.int .i64 0,.int .i64 0]]):=by
   rw[Ek _ sj ?_];exact g;intro e he;rcases ay with⟨rfl,_⟩|⟨l,rfl,ax,_⟩
   ·cases he
   ·cases he;simp only[J.b6] at ax;omega
  have aoO:=J.aW g';have cp:cd (some (.agg [.int .i64 0,.int .i64 0])) (.agg [.int .i64 0,.int .i64 0])=true:=by simp[cd,I.beq,jA.beq]
  simp-implicitDefEqProofs(disch:=try exact ag) only[rG,vi,uJ,reduceAdd,reduceLeDiff,reduceIte,az,g',cp];have eh:aR H0 H':=(aR.push _ _).trans qz;have et:aR H0 (H'.set H0.next (.row false 2 [[.int .i64 0,.int .i64 0]])):=eh.de (bL _) _;refine a8.2 ⟨dr,rfl,?_,et⟩;rw[hW];simp only[rZ];rw[CR] at hZ;exact hZ.tok.bo λl ro els e=>by
   rw[J.get_set_other];exact e;rintro rfl;rw[g'] at e;cases e
 |n+1,c::r,at_,m+1,T,v,H,h,b1,ay,p,aH,aV,hm=>by
  obtain⟨aI,bc,dm,eS⟩:=drop_cons h;have U:((at_:Int)<(s.length:Int)):=Z;have g:H.get H0.next=some (.row false 2 [[.int .i64 0,.int .i64 0]]):=p.get (J.ca _ _)
  have sj:=J.aW g;simp-implicitDefEqProofs(disch:=try exact ag) only[xf,rG,vi,uJ,reduceAdd,reduceLeDiff,reduceIte,az,U,decide_true];have apb:ko H:=(YV.aK (aR.push _ _)).aK p;have Xq:=SB (s:=s) (a:=at_) Z;rw[h] at Xq;simp-implicitDefEqProofs(disch:=try exact ag) only[bj,bO,Xq];refine aY (adN apb (s:=c::r) (by simp only[List.length_cons];omega) rfl) ?_;rintro _ bl ⟨rfl,aJ⟩;refine⟨aJ.1,?_⟩;have g2:=aJ.get g;have Ih:=J.aW g2;have cn:=ay.aK aJ;replace p:=p.trans aJ;rw[hW];cases bs:jM (c::r) with
  |none=>
   simp only[uw];simp-implicitDefEqProofs(disch:=try exact ag) only[rG,vi,uJ,reduceAdd,reduceLeDiff,reduceIte,az,V7,beq_self_eq_true,g2,J.h8];have cp:cd (some (.agg [.int .i64 1,.int .i64 at_])) (.agg [.int .i64 1,.int .i64 at_])=true:=by simp[cd,I.beq,jA.beq]
   refine a8.2 ⟨.an,rfl,.inl ⟨rfl,rfl⟩,?_⟩;exact(((aR.push _ _).trans p).de (bL _) _).bV _
  |some q=>
   obtain⟨k,t,z,b⟩:=q;obtain⟨c_,cD⟩:=GM bs;have Nd:((b:Int)==0)=false:=by simp;omega
   simp only[uw];simp only[List.length_cons] at cD aV hm;obtain⟨dr,H',gU,hZ,qz,s9,Ek⟩:=GR (cn.aK (aR.push bl (.row false 4 [Tok.cells ⟨k,t,z,at_⟩]))) (p.bV _) Z ⟨k,t,z,at_⟩;have fe:=He (bl.next+1) ⟨k,t,z,at_⟩;simp only[Tok.v] at fe;simp only[Tok.cells,J.b6] at gU s9;simp only[Tok.cells] at fe;have cp: ∀nQ:J,cd (some (.agg [.int .i64 k,.str t,.int .i64 z,.int .i64 at_])) (.agg [.int .i64 k,.str t,.int .i64 z,.int .i64 at_])=true:=λ_=>by simp[cd,I.beq,jA.beq]
   simp-implicitDefEqProofs(disch:=try exact ag) only[rG,vi,uJ,reduceAdd,reduceLeDiff,reduceIte,az,Nd,fe,gU,ks,sh];have mS:s.drop (at_+b)=(c::r).drop b:=by rw[<-List.drop_drop,h]
   have oG:=wL ((c::r).drop b) false;simp only[List.length_drop,List.length_cons] at oG;refine lz (PF Z (at_:=at_+b) Z) ?_;rw[mS];have Mn:at_+b+dY false ((c::r).drop b)<=s.length:=Z;have aT:=Q_ YV aO N n (s.drop (at_+b+dY false ((c::r).drop b))) (at_+b+dY false ((c::r).drop b)) m (T++[⟨k,t,z,at_⟩]) dr H' rfl Mn hZ qz (by simp;omega) (by simp;omega) (by simp;omega);refine aT.mono ?_;rintro w nD ⟨aj,cE,cx,eM⟩;have Nj:s.drop (at_+b+dY false ((c::r).drop b))=((c::r).drop b).drop (dY false ((c::r).drop b)):=by rw[<-List.drop_drop,mS]
   rw[Nj] at cE cx;have nd:rZ (T++[⟨k,t,z,at_⟩]) (hW n (((c::r).drop b).drop (dY false ((c::r).drop b))) (at_+b+dY false ((c::r).drop b)))=rZ T (match hW n (((c::r).drop b).drop (dY false ((c::r).drop b))) (at_+b+dY false ((c::r).drop b)) with
     | .inl e=> .inl e
     | .inr l=> .inr (⟨k,t,z,at_⟩::l)):=by
    cases hW n (((c::r).drop b).drop (dY false ((c::r).drop b))) (at_+b+dY false ((c::r).drop b)) with
    |inl e=>rfl
    |inr l=>simp[rZ]
   rw[nd] at cE cx;exact⟨aj,cE,cx,eM⟩
theorem aaT{H:J}(aX:ko H)(s:bk):W (au P ao 16 [.str s] H) (GQ H (gg s)):=by
 refine cU (λ_=>alM (s.length+1)) ?_;by_cases aG:(6000:Int)<(s.length:Int)
 ·have wb:6000<s.length:=Z;simp-implicitDefEqProofs(disch:=try exact ag) only[rG,vi,uJ,reduceAdd,reduceLeDiff,reduceIte,az,aG,decide_true];refine a8.2 ⟨.an,by simp[gg,wb],.inl ⟨rfl,by simp[gg,wb]⟩,aR.push _ _⟩
 ·have wb: ¬6000<s.length:=Z;simp-implicitDefEqProofs(disch:=try exact ag) only[rG,uJ,reduceAdd,reduceLeDiff,reduceIte,az,aG,decide_false];refine lz (PF (s:=s) Z (at_:=0) Z) ?_;simp only[List.drop_zero,Nat.zero_add];have oG:=wL s false;refine(Q_ (H0:=H) aX Z (s.length+1) (s.length+1) (s.drop (dY false s)) (dY false s) (s.length+1) [] .an _ rfl oG (.inl ⟨rfl,rfl⟩) (.refl _) (by simp) (by simp;omega) (by simp;omega)).mono ?_;rintro v H' ⟨aj,cE,cx,eM⟩;have nd:rZ [] (hW (s.length+1) (s.drop (dY false s)) (dY false s))=gg s:=by
   simp only[gg,if_neg wb,zZ];cases hW (s.length+1) (s.drop (dY false s)) (dY false s)<;>rfl
  rw[nd] at cE cx;exact⟨aj,cE,cx,eM⟩
end
end Go.Proofs.YtghmbpmaafnodaaGreatDoor.jv
namespace Go.Proofs.YtghmbpmaafnodaaGreatDoor
open Go.f7
open Nat (reduceAdd reduceLeDiff)
section
theorem Sd: ∀(n:Nat) (rest:bk) (p:Nat) (l:List Tok),hW n rest p= .inr l->l.length<=rest.length+1
 |0,_,_,_,h=>by simp[hW] at h
 |n+1,[],p,l,h=>by simp[hW] at h;subst h;simp
 |n+1,c::r,p,l,h=>by
  rw[hW] at h;cases bs:jM (c::r) with
  |none=>rw[bs] at h;simp at h
  |some q=>
   obtain⟨k,t,z,b⟩:=q;obtain⟨c_,cD⟩:=GM bs;rw[bs] at h;simp only at h;cases ax:hW n (((c::r).drop b).drop (dY false ((c::r).drop b))) (p+b+dY false ((c::r).drop b)) with
   |inl e=>rw[ax] at h;cases h
   |inr l'=>
    rw[ax] at h;cases h;have:=Sd n _ _ l' ax;simp only[List.length_drop,List.length_cons] at this cD ⊢;omega
theorem abL(s:bk):(gg s).1.length<=s.length+1:=by
 unfold gg;split
 ·simp
 ·cases h:zZ s with
  |inl e=>simp
  |inr l=>
   have:=Sd _ _ _ l h;simp only[List.length_drop] at this;simp only
   omega
end
section
theorem Q5: ∀(n:Nat) (s:bk) (p:Nat) (l:List Tok),hW n s p= .inr l-> ∃L q,l=L++[⟨0,[],0,q⟩]
 |0,_,_,_,h=>by cases h
 |n+1,[],p,l,h=>by cases h;exact⟨[],_,rfl⟩
 |n+1,c::r,p,l,h=>by
  rw[hW] at h;split at h
  ·cases h
  ·rename_i k t v m bs;split at h
   ·cases h
   ·rename_i l' ax;cases h;obtain⟨L,q,rfl⟩:=Q5 n _ _ _ ax;exact⟨⟨k,t,v,p⟩::L,q,rfl⟩
theorem Lh{s:bk}(h:(gg s).2.1=0):hq (gg s).1/\1<=(gg s).1.length:=by
 have ax:=abL s;have bs:= @afm s;have aG:s.length<=6000:=by
  unfold gg at h;split at h
  ·simp at h
  ·omega
 obtain⟨L,q,e⟩: ∃L q,(gg s).1=L++[⟨0,[],0,q⟩]:=by
  unfold gg at h ⊢;rw[if_neg Z] at h ⊢;cases af:zZ s with
  |inl e=>rw[af] at h;simp at h
  |inr l=>exact Q5 _ _ _ _ af
 rw[e] at ax bs ⊢;simp only[List.length_append,List.length_cons,List.length_nil] at ax ⊢;refine⟨⟨by simp;omega,by simp;omega,λa b1=> ?_,bs⟩,Z⟩;have kP:=VV b1;simp only[List.length_append,List.length_cons,List.length_nil] at kP ⊢;by_cases eo:a<L.length
 ·omega
 ·exfalso;have gU:a.toNat=L.length:=Z;apply b1;unfold aq;rw[if_neg (by simp;omega),gU,List.getElem?_append_right (bL _),Nat.sub_self];rfl
def ot(T:List Tok)(N:Nat):Nat->eb->aw->R eb
 |0,_,_=>none
 |n+1,g,s=>bif s.aA==0&&(aq T s.at_).kind != 0 then
  (bif b4 T s 3 [114,101,99,111,114,100] then(wU T N g s).bind λp=>ot T N n p.1 p.2
  else bif b4 T s 3 [103,108,111,98,97,108] then ot T N n (k6 T g s).1 (k6 T g s).2
  else bif b4 T s 3 [102,117,110,99] then(wN T N g s).bind λp=>ot T N n p.1 p.2
  else ot T N n g (cL T 2 s))
  else some (g,s)
section
variable {H H' H1:J}{r:Nat}{T:List Tok}{aj ch cf ci:I}{s s':aw}
theorem TU{n:Nat}{g g':eb}(h:wU T n g s=some (g',s')):g'.ey.length=g.ey.length+1/\g'.globals.length=g.globals.length/\g'.funcs.length=g.funcs.length:=by
 obtain⟨p,-,g2⟩:=hL h;cases g2;simp
theorem Tx{n:Nat}{g g':eb}(h:wN T n g s=some (g',s')):g'.ey.length=g.ey.length/\g'.globals.length=g.globals.length/\g'.funcs.length<=g.funcs.length+1:=by
 obtain⟨p,-,g2⟩:=hL h;simp only[bD] at g2;have fv:=congrArg Prod.fst g2;unfold oy at fv;split at fv
 ·simp only at fv;rw[<-fv];simp
 ·simp only at fv;rw[<-fv];simp
theorem DM{N:Nat}(aH:hq T){Q:I->J->Prop}{ap aC:I}{g':eb}
  (eH: ∀H,tl r H1 H->nS H r T aj g' s'->W (zJ (au P ao) N ap aC (.ptr r 0 0) H) Q) (M:Nat) (jw:M<=800000000):
  ∀(n m:Nat) (H:J) (s:aw) (g:eb),n<m->g.ey.length+n<=900000000->g.globals.length+n<=900000000->g.funcs.length+n<=900000000->tl r H1 H->nS H r T aj g s->ot T M n g s=some (g',s')->W (zK (au P ao) N m ap aC (.ptr r 0 0) H) Q
 |_,0,_,_,_,aV,_,_,_,_,_,_=>Z
 |0,m+1,_,_,_,_,_,_,_,_,_,ak=>by cases ak
 |n+1,m+1,H,s,g,aV,eI,fB,gL,fG,h,ak=>by
  rw[ot] at ak;rw[zK];unfold Hz;obtain⟨ch,cf,ci,cS,dq,dP,dj,bC,c_,cD,b3,bJ,c2,c3⟩:=id h;refine aY (yC dj) ?_;rintro _ bl ⟨rfl,rfl⟩;refine⟨bL _,?_⟩;by_cases a6:s.aA=0
  ·have mi:(s.aA != 0)=false:=by simpa using a6
   have ib:(s.aA==0)=true:=by simpa using a6
   rw[ib,Bool.true_and] at ak;simp-implicitDefEqProofs(disch:=try exact ag) only[bj,bO,mi,Bool.not_false];refine hh (Bv dj) ?_;rintro _ cQ ⟨rfl,bz⟩;refine⟨bz.1,?_⟩;have Zz:=dj.aK bz;have bo: ∀{Dh:J},aR bl Dh->nS Dh r T aj g s:=λp=>nS.mut bC c_ cD b3 bJ c2 c3 (p.mut _) (dj.aK p)
   cases ah:((aq T s.at_).kind != 0) with
   |false=>
    rw[ah,bi] at ak;cases ak;simp-implicitDefEqProofs(disch:=try exact ag) only[bj,bO,ei,fE,Tok.v,ah];exact eH _ (fG.trans (bz.mut _)) (bo bz)
   |true=>
    rw[ah,bx] at ak;have eZ:(aq T s.at_).kind≠0:=by simpa using ah
    simp-implicitDefEqProofs(disch:=try exact ag) only[bj,bO,ei,fE,Tok.v,ah];refine aY (BI Zz 3 _) ?_;rintro _ cu ⟨rfl,bK⟩;refine⟨bK.1,?_⟩;have ZA:=Zz.aK bK;have pn:=bz.trans bK;cases a7:b4 T s 3 [114,101,99,111,114,100] with
    |true=>
     rw[a7,bx] at ak;obtain⟨⟨g2,s2⟩,aI,bc⟩:=hL ak;have hlen:=TU aI;simp-implicitDefEqProofs(disch:=try exact ag) only[bj,bO];refine aY (aaW aH Z (bo pn) Z eZ aI) ?_;rintro _ dc ⟨m5,aB⟩;exact⟨m5.1,DM aH eH M jw n m dc s2 g2 Z Z Z Z ((fG.trans (pn.mut _)).trans m5) aB bc⟩
    |false=>
     rw[a7,bi] at ak;simp-implicitDefEqProofs(disch:=try exact ag) only[bj,bO];refine aY (BI ZA 3 _) ?_;rintro _ dc ⟨rfl,cO⟩;refine⟨cO.1,?_⟩;have ZB:=ZA.aK cO;have NV:=pn.trans cO;cases aX:b4 T s 3 [103,108,111,98,97,108] with
     |true=>
      rw[aX,bx] at ak;simp-implicitDefEqProofs(disch:=try exact ag) only[bj,bO];refine aY (aaV aH (bo NV) Z eZ) ?_;rintro _ fX ⟨m6,aG⟩;exact⟨m6.1,DM aH eH M jw n m fX _ _ Z (by simp only[k6];omega) (by simp only[k6,List.length_append,List.length_cons,List.length_nil];omega) (by simp only[k6];omega) ((fG.trans (NV.mut _)).trans m6) aG ak⟩
     |false=>
      rw[aX,bi] at ak;simp-implicitDefEqProofs(disch:=try exact ag) only[bj,bO];refine aY (BI ZB 3 _) ?_;rintro _ fX ⟨rfl,e2⟩;refine⟨e2.1,?_⟩;have aqb:=ZB.aK e2;have Db:=NV.trans e2;cases jp:b4 T s 3 [102,117,110,99] with
      |true=>
       rw[jp,bx] at ak;obtain⟨⟨g2,s2⟩,aI,bc⟩:=hL ak;have hlen:=Tx aI;simp-implicitDefEqProofs(disch:=try exact ag) only[bj,bO];refine aY (aao aH jw (bo Db) Z eZ aI) ?_;rintro _ fY ⟨m7,aP⟩;exact⟨m7.1,DM aH eH M jw n m fY s2 g2 Z Z Z Z ((fG.trans (Db.mut _)).trans m7) aP bc⟩
      |false=>
       rw[jp,bi] at ak;simp-implicitDefEqProofs(disch:=try exact ag) only[bj,bO];refine aY (Gm aqb (e:=2) cl) ?_;rintro _ fY ⟨rfl,m7,aqc⟩;refine⟨m7.1,DM aH eH M jw n m fY _ g Z Z Z Z ((fG.trans (Db.mut _)).trans m7.sn) ?_ ak⟩;exact nS.mut bC (c_.bo (d_.aK Db)) (cD.bo (d_.aK Db)) (b3.bo (d_.aK Db)) bJ c2 c3 m7 aqc
  ·have mi:(s.aA != 0)=true:=by simpa using a6
   have ib:(s.aA==0)=false:=by simpa using a6
   rw[ib] at ak;cases ak;simp-implicitDefEqProofs(disch:=try exact ag) only[bj,bO,mi,Bool.not_true];exact eH _ fG h
end
end
section
def Rx(H0:J)(x:eb×Int×Int)(v:I)(H':J):Prop:= ∃ch cf ci,v= .tuple [.agg [ch,cf,ci],.agg [.int .i64 x.2.1,.int .i64 x.2.2]]/\eR gQ H' (bG H0.next) x.1.ey ch/\eR ga H' (bG H0.next) x.1.globals cf/\eR gN H' (bG H0.next) x.1.funcs ci/\aR H0 H'
def j3(s:bk)(g:eb)(s':aw):eb×Int×Int:=if(gg s).2.1=0 then uo g s' else(.none,(gg s).2.1,(gg s).2.2)
theorem agE{aj:I}{T:List Tok}{H:J}(h:h9 H aj T):cM P 55 [(0,aj)]=some (.agg [aj,.int .i64 0,.an,.an,.an,.int .i64 0,.int .i64 0]):=by
 rcases h with⟨rfl,_⟩|⟨l,i,cap,rfl,_⟩<;>kernel_rfl
theorem HS(a b:Int):cd (some (.agg [.int .i64 a,.int .i64 b])) (.agg [.int .i64 a,.int .i64 b])=true:=by simp[cd,I.beq,jA.beq]
section
variable {H:J}
theorem PE(aX:jv.ko H)(s:bk){g':eb}{s':aw}{M n:Nat}(jw:M<=800000000)(aV:n<=800000000)(bA:(gg s).2.1=0->ot (gg s).1 M n .none ⟨0,0,0,0⟩=some (g',s')):W (au P ao 8 [.str s] H) (Rx H (j3 s g' s')):=by
 refine cU (λ_=>aoe (n+1)) ?_;have eh:=(aR.push H (.row false 3 [[.an,.an,.an]])).bV (.row false 2 [[.int .i64 0,.int .i64 0]]);simp-implicitDefEqProofs(disch:=try exact ag) only[Jm,bj,bO,List.length_cons,List.length_nil,Nat.zero_add,Nat.reduceAdd];refine aY (jv.aaT (aX.aK eh) s) ?_;rintro _ cQ ⟨aj,rfl,wl,bz⟩;refine⟨bz.1,?_⟩;have fv:=bz.get ((aR.push (H.push (.row false 3 [[.an,.an,.an]])) (.row false 2 [[.int .i64 0,.int .i64 0]])).get (J.ca H (.row false 3 [[.an,.an,.an]])));have hF:=bz.get (J.ca (H.push (.row false 3 [[.an,.an,.an]])) (.row false 2 [[.int .i64 0,.int .i64 0]]));have jy:=bz.1
 simp only[J.b6] at jy hF;have Aw:= @Lh s;unfold j3;generalize gg s=b9 at wl bA Aw ⊢;obtain⟨T,aA,cw⟩:=b9;simp only at wl bA Aw ⊢;have eB:=aR.push cQ (.row false 2 [[.int .i64 aA,.int .i64 cw]]);have gc:=J.ca cQ (.row false 2 [[.int .i64 aA,.int .i64 cw]]);have pc:=eB.get fv;have qg:=eB.get hF;have mz:(cQ.push (.row false 2 [[.int .i64 aA,.int .i64 cw]])).next=cQ.next+1:=by simp only[J.b6]
 have bK:=(eh.trans bz).trans eB;have te:=wl.aK eB;by_cases ak:aA=0
 ·subst ak;have z0:((0:Int) != 0)=false:=rfl;simp-implicitDefEqProofs(disch:=try exact ag) only[bj,bO,am,dy,aQ,dy,Nat.reduceAdd,Nat.reduceLeDiff,reduceIte,I.cells,eu,fl,dD,fE,ei,J.h8,z0];generalize cQ.push (.row false 2 [[.int .i64 0,.int .i64 cw]])=cu at eB gc pc qg mz bK te ⊢;obtain⟨aH,ax⟩:=Aw rfl;have pf:=agE te;have df:=te.one;have ic: ∀l,eW l (.agg [aj,.int .i64 0,.an,.an,.an,.int .i64 0,.int .i64 0])=some (.ptr l 0 0,.row false 7 [[aj,.int .i64 0,.an,.an,.an,.int .i64 0,.int .i64 0]]):=λl=>ij l _ (by simp only[List.all_cons,List.all_nil,iy,Bt,df,Bool.and_self])
  have eN:=aR.push cu (.row false 7 [[aj,.int .i64 0,.an,.an,.an,.int .i64 0,.int .i64 0]]);have rs:nS (cu.push (.row false 7 [[aj,.int .i64 0,.an,.an,.an,.int .i64 0,.int .i64 0]])) cu.next T aj .none ⟨0,0,0,0⟩:=by
   refine⟨.an,.an,.an,(λ_=>False),(λ_=>False),(λ_=>False),⟨J.ca _ _,te.aK eN,Int.le_refl _,by(try simp only);omega,aH.n,λ_=>rfl,rfl,rfl,rfl,rfl⟩,?_,fF.nil,fF.nil,fF.nil,λ_ h=>h.elim,λ_ h=>h.elim,λ_ h=>h.elim⟩;intro l i m e c bw;rcases te with⟨rfl,_⟩|⟨l',qy,cap,rfl,bW⟩
   ·cases bw
   ·cases bw;obtain⟨ro,els,cE,-⟩:=bW.resolve_left (by rintro rfl;simp at ax);exact J.aW cE
  simp-implicitDefEqProofs(disch:=try exact ag) only[bj,bO,pf,ic];refine DM (H1:=cu.push (.row false 7 [[aj,.int .i64 0,.an,.an,.an,.int .i64 0,.int .i64 0]])) aH (λfX m6 aG=> ?_) M jw n (n+1) _ _ .none Z (by simp only[eb.none,List.length_nil];omega) (by simp only[eb.none,List.length_nil];omega) (by simp only[eb.none,List.length_nil];omega) (dE.refl _ _) rs (bA rfl);obtain⟨ch,cf,ci,cS,dq,dP,dj,bC,c_,cD,b3,bJ,c2,c3⟩:=aG;have A3:=m6.1;simp only[J.b6] at A3;have r5:=m6.get (eN.get pc) Z;have Am:=m6.get (eN.get qg) Z;have q8:=dj.rd;unfold iw at q8;obtain⟨dk,dJ,eL⟩:=dj.one;have F7:=J.aW r5;have yy:=J.aW Am
  have oP:=J.aW q8;have nf:aR H fX:=⟨by have:=bK.1;omega,λl ax=>by
   have al:=bK.1;rw[m6.2 l (by simp only[J.b6];omega) Z,eN.2 l Z];exact bK.2 l ax⟩
  rw[zJ];refine aY (yC dj) ?_;rintro _ fY ⟨rfl,rfl⟩;refine⟨bL _,?_⟩;unfold uo;by_cases a6:s'.aA=0
  ·have mi:(s'.aA != 0)=false:=by simpa using a6
   simp-implicitDefEqProofs(disch:=try exact ag) only[reduceAdd,reduceLeDiff,reduceIte,az,mi,q8,r5,Am,dk,dJ,eL];rw[if_pos a6];have iS: ∀ok:Nat->Prop,(∀k,ok k->cu.next<k)->d_ fY ok ((fY.set H.next (.row false 3 [[ch,cf,ci]])).set (H.next+1) (.row false 2 [[.int .i64 0,.int .i64 0]])) (bG H.next):=λok ah k b bs g=>by
    have:=ah k bs;have al:=bK.1;exact⟨by unfold bG;omega,by rw[J.get_set_other Z,J.get_set_other Z];exact g⟩
   exact a8.2 ⟨ch,cf,ci,rfl,(c_.aM).bo (iS cS λk ah=>(bJ k ah).1),(cD.aM).bo (iS dq λk ah=>(c2 k ah).1),(b3.aM).bo (iS dP c3),(nf.de (bL _) _).de Z _⟩
  ·have mi:(s'.aA != 0)=true:=by simpa using a6
   simp-implicitDefEqProofs(disch:=try exact ag) only[reduceAdd,reduceLeDiff,reduceIte,az,mi,q8,r5,Am,HS];rw[if_neg a6];exact a8.2 ⟨.an,.an,.an,rfl,eR.nil,eR.nil,eR.nil,(nf.de (bL _) _).de Z _⟩
 ·have z0:(aA != 0)=true:=by simpa using ak
  have apS:=J.aW pc;have apT:=J.aW qg;rw[if_neg ak];have F7:=J.aW fv;have yy:=J.aW hF;have NU:=eh.trans bz;simp-implicitDefEqProofs(disch:=try exact ag) only[reduceAdd,reduceLeDiff,reduceIte,az,J.h8,z0,fv,hF,HS];refine a8.2 ⟨.an,.an,.an,rfl,eR.nil,eR.nil,eR.nil,?_⟩
  repeat (first|exact NU|refine aR.bV ?_ _|refine aR.de ?_ Z _)
end
end
section
set_option maxRecDepth 100000
noncomputable section
def yl(G:av)(Y ai:I)(H:J):O:=
 dA H (eW (H).next Y) λap U=>
 dA U (eW (U).next ai) λaC aa=>
 ab (aF P 98 ap 0) λbf=>
 ab (am P aa 3 bf) λbB=>
 ab (aF P 98 aC 0) λbu=>
 ab (am P aa 3 bu) λbS=>
 ab (aZ P .eql 3 false bB bS) λbF=>
 aD bF true aa (bm (aF P 98 ap 1)) λb8 ae=>
 aD bF true ae (qr (am P ae 9 b8)) λcb al=>
 aD bF true al (bm (aF P 98 aC 1)) λb0 aB=>
 aD bF true aB (qr (am P aB 9 b0)) λbT aG=>
 aD bF true aG (bm (aZ P .eql 9 false cb bT)) λbX aP=>
 ab (cW bF (some bX) (some (.bool false))) λbI=>
 aD bI true aP (bm (aF P 98 ap 2)) λcG bn=>
 aD bI true bn (qr (am P bn 43 cG)) λc6 bH=>
 aD bI true bH (bm (aF P 98 aC 2)) λcN co=>
 aD bI true co (qr (am P co 43 cN)) λcz dp=>
 aD bI true dp (bm (aZ P .eql 43 false c6 cz)) λc7 dR=>
 ab (cW bI (some c7) (some (.bool false))) λcI=>
 aD cI true dR (bm (aF P 98 ap 7)) λdn eF=>
 aD cI true eF (qr (am P eF 3 dn)) λdu fs=>
 aD cI true fs (bm (aF P 98 aC 7)) λdh fP=>
 aD cI true fP (qr (am P fP 3 dh)) λdT gG=>
 aD cI true gG (bm (aZ P .eql 3 false du dT)) λdI hM=>
 ab (cW cI (some dI) (some (.bool false))) λcH=>
 aD cH true hM (bm (aF P 98 ap 3)) λdV ht=>
 aD cH true ht (qr (am P ht 96 dV)) λef kL=>
 aD cH true kL (bm (aF P 98 aC 3)) λe6 iC=>
 aD cH true iC (qr (am P iC 96 e6)) λeg hU=>
 aD cH true hU (λq=>fo hU (G 86 [ef,eg] hU) q) λej kM=>
 ab (cW cH (some ej) (some (.bool false))) λed=>
 aD ed true kM (bm (aF P 98 ap 4)) λft hB=>
 aD ed true hB (qr (am P hB 44 ft)) λe7 pd=>
 aD ed true pd (bm (aF P 98 aC 4)) λfy lR=>
 aD ed true lR (qr (am P lR 44 fy)) λfW mP=>
 aD ed true mP (λq=>fo mP (G 34 [e7,fW] mP) q) λgv qh=>
 ab (cW ed (some gv) (some (.bool false))) λeU=>
 aD eU true qh (bm (aF P 98 ap 5)) λgb lS=>
 aD eU true lS (qr (am P lS 44 gb)) λgS wa=>
 aD eU true wa (bm (aF P 98 aC 5)) λju qi=>
 aD eU true qi (qr (am P qi 44 ju)) λhv mQ=>
 aD eU true mQ (λq=>fo mQ (G 34 [gS,hv] mQ) q) λh1 s4=>
 ab (cW eU (some h1) (some (.bool false))) λhV=>
 some (hV,s4)
theorem akp(G:av)(N:Nat)(Y:I)(ai:I)(H:J):bp Tryz.f62 G N (cF [Y,ai]) H=yl G Y ai H:=by
 refine cP (A:=bp Tryz.f62 G N) (aN _) ?_;delta yl;kernel_rfl
theorem amq(N:Nat){Y ai:I}{H:J}{r:I×J}(h:yl (au P ao) Y ai H=some r):au P ao 62 [Y,ai] H=some r:=
 cV ad Tryz.func62 ad ad ad ((akp (au P ao) N Y ai H).trans h)
def tW(G:av)(N:Nat)(H:J):O:=
 some ((.bool true),H)
theorem aes(G:av)(N:Nat): ∀R H,cA P G N (Code.snd (Code.snd (Code.snd (di Tryz.f34)))) (b_ Tryz.f34) [] (b_ Tryz.f34) R H=tW G N H:=by
 refine ds (aN _) λR H=> ?_
 delta tW;kernel_rfl
def zn(G:av)(N:Nat)(bE:I->I->I->J->O)(Y ai bf:I)(H:J):O:=
 bj P .len [44] [Y] H λb0=>
 ab (aZ P .lss 3 false bf b0) λbT=>
 bQ (some bT) (ab (en P 44 Y bf) λc6=>
 ab (am P H 98 c6) λcN=>
 ab (en P 44 ai bf) λcI=>
 ab (am P H 98 cI) λdb=>
 aL H (G 62 [cN,db] H) λdn U=>
 ab (fh .not dn) λdu=>
 bQ (some du) (some ((.bool false),U)) (ab (aZ P .add 3 true bf (.int .i64 1)) λbI=>
 bE Y ai bI U)) (tW G N H)
def vn(G:av)(N:Nat):Nat->I->I->I->J->O
 |0,_,_,_,_=>none
 |n+1,Y,ai,bf,H=>zn G N (vn G N n) Y ai bf H
theorem aer(G:av)(N:Nat)(bE:I->I->I->J->O): ∀R H,cA P G N (Code.fst (Code.fst (Code.snd (Code.fst (Code.snd (Code.snd (di Tryz.f34))))))) (λR H=>bE (R 0) (R 1) (R 5) H) [(0,(λR H=>tW G N H))] (b_ Tryz.f34) R H=zn G N bE (R 0) (R 1) (R 5) H:=by
 refine ds (aN _) λR H=> ?_
 delta zn;generalize tW G N=ba;revert ba;refine id ?_;intro ba;kernel_rfl
def yh(G:av)(N:Nat)(Y ai:I)(H:J):O:=
 bj P .len [44] [Y] H λbu=>
 bj P .len [44] [ai] H λbF=>
 ab (aZ P .neq 3 false bu bF) λcr=>
 bQ (some cr) (some ((.bool false),H)) (vn G N N Y ai (.int .i64 0) H)
theorem aj3(G:av)(N:Nat)(Y:I)(ai:I)(H:J):bp Tryz.f34 G N (cF [Y,ai]) H=yh G N Y ai H:=by
 refine cP (A:=bp Tryz.f34 G N) ((br ad ((br ad ((br ad (aes G N) ((br ad ((fL ad ((gD (k:=λm R H=>vn G N m (R 0) (R 1) (R 5) H) ad (λR H=>ad) (λm=>aer G N (vn G N m)))))) (aN _))))) (aN _))) (aN _))) ?_;delta yh;generalize vn G N N=ba;revert ba;refine id ?_;intro ba;kernel_rfl
theorem al4(N:Nat){Y ai:I}{H:J}{r:I×J}(h:yh (au P ao) N Y ai H=some r):au P ao 34 [Y,ai] H=some r:=
 cV ad Tryz.func34 ad ad ad ((aj3 (au P ao) N Y ai H).trans h)
end
end
section
mutual
def p2:cy->cy->Bool
 | .mk a es b c,.mk er es' fK c'=>a.kind==er.kind&&(a.name==er.name&&((a.eQ==er.eQ&&a.fS==er.fS)&&(a.ref==er.ref&&(h_ es es'&&(hK b fK&&hK c c')))))
def hK:List cy->List cy->Bool
 |[],[]=>true
 |[],_::_=>false
 |_::_,[]=>false
 |e::es,f::eA=>p2 e f&&hK es eA
end
mutual
def kK(B:Nat):cy->Prop
 | .mk _ es b c=>(es.length<=B/\gr B es)/\(b.length<=B/\hi B b)/\(c.length<=B/\hi B c)
def hi(B:Nat):List cy->Prop
 |[]=>True
 |e::es=>kK B e/\hi B es
end
theorem hi.mem{B:Nat}: ∀{es:List cy},hi B es-> ∀e∈es,kK B e
 |[],_,e,he=>by simp at he
 |x::xs,h,e,he=>by
  rw[hi] at h;rcases List.mem_cons.1 he with rfl|he
  ·exact h.1
  ·exact hi.mem h.2 e he
theorem JA: ∀(es eA:List cy),es.length≠eA.length->hK es eA=false
 |[],[],h=>absurd rfl h
 |[],_::_,_=>by rw[hK]
 |_::_,[],_=>by rw[hK]
 |e::es,f::eA,h=>by rw[hK,JA es eA (by simpa using h),Bool.and_false]
mutual
theorem abF: ∀e:bh,p1 e e=true
 | .mk a bR=>by rw[p1,JZ bR];simp
theorem JZ: ∀es:List bh,h_ es es=true
 |[]=>by rw[h_]
 |e::es=>by rw[h_,abF e,JZ es];rfl
end
mutual
theorem adi: ∀e:cy,p2 e e=true
 | .mk a es b c=>by rw[p2,Gh b,Gh c,JZ es];simp
theorem Gh: ∀es:List cy,hK es es=true
 |[]=>by rw[hK]
 |e::es=>by rw[hK,adi e,Gh es];rfl
end
theorem cy.PP{a:dv}{es:List bh}{b c:List cy}{e:cy}(h:e∈b):SizeOf.sizeOf e<SizeOf.sizeOf (cy.mk a es b c):=by
 have:=List.sizeOf_lt_of_mem h;simp only[cy.mk.sizeOf_spec];omega
theorem cy.Qw{a:dv}{es:List bh}{b c:List cy}{e:cy}(h:e∈c):SizeOf.sizeOf e<SizeOf.sizeOf (cy.mk a es b c):=by
 have:=List.sizeOf_lt_of_mem h;simp only[cy.mk.sizeOf_spec];omega
theorem eC.aK{H H':J}{ok:Nat->Prop}{bR:List cy}{kv:I}(h:eC H ok bR kv)(p:aR H H'):eC H' ok bR kv:=h.bo (fD.aK p λ_ h=>h)
theorem hX.aK{H H':J}{ok:Nat->Prop}{e:cy}{v:I}(h:hX H ok e v)(p:aR H H'):hX H' ok e v:=hX.bo (fD.aK p λ_ h=>h) e v h
theorem gJ.cons{H:J}{ok:Nat->Prop}{e:cy}{es:List cy}{els:List (List I)}{k:Nat}(h:gJ H ok (e::es) (els.drop k)): ∃cs,els[k]? =some cs/\hX H ok e (.agg cs)/\gJ H ok es (els.drop (k+1)):=by
 cases bb:els.drop k with
 |nil=>rw[bb,gJ] at h;exact h.elim
 |cons cs q3=>
  rw[bb,gJ] at h;have U:els[k]? =some cs:=by
   have:=List.getElem?_drop (xs:=els) (i:=k) (j:=0);rw[bb] at this;simpa using this.symm
  have aa:els.drop (k+1)=q3:=by
   have:(els.drop k).drop 1=q3:=by rw[bb];rfl
   rwa[List.drop_drop] at this
  exact⟨cs,U,h.1,by rw[aa];exact h.2⟩
theorem eC.v8{H:J}{ok:Nat->Prop}{bR:List cy}{x:I}(af:eC H ok bR x)(H':J):dC P H' .len [44] [x]=some (.int .i64 bR.length):=by
 rcases af with⟨rfl,aI⟩|⟨eI,i1,bJ,gj,s3,rfl,_⟩|⟨eI,i1,bJ,rfl,aI⟩
 ·rw[aI];exact L7
 ·exact HP
 ·rw[aI];exact HP
theorem eC.row{H:J}{ok:Nat->Prop}{bR:List cy}{x:I}(af:eC H ok bR x)(h: ¬bR.length=0): ∃l i cap ro els,x= .aM l i bR.length 9 (Option.map (· +bR.length) cap)/\ok l/\H.get l=some (.row ro 9 els)/\gJ H ok bR (els.drop i):=by
 rcases af with⟨_,aI⟩|U|⟨_,_,_,_,aI⟩
 ·exact absurd aI h
 ·exact U
 ·exact absurd aI h
def tC(F:Nat)(B:Nat)(e:cy):Prop:=kK B e-> ∀(f:cy) (v w:I) (H:J) (ok ok':Nat->Prop),hX H ok e v->hX H ok' f w->W (au P ao F [v,w] H) λr H'=>r= .bool (p2 e f)/\aR H H'
theorem Xy(m k:Nat)(h:m≠k):((m:Int) != (k:Int))=true:=by simp;omega
theorem Xz(m:Nat):((m:Int) != (m:Int))=false:=by simp
theorem ah8{H:J}{a er:dv}{es es':List bh}{b fK c c':List cy}{ev ll bv jn fu lk:I}(U:ev.one=true)(fr:ll.one=true)(aa:bv.one=true)(hb:jn.one=true)(ae:fu.one=true)(hY:lk.one=true)
  (he: ∀H',aR H H'->W (au P ao 86 [ev,ll] H') λr nD=>r= .bool (h_ es es')/\aR H' nD)
  (ay: ∀H',aR H H'->W (au P ao 34 [bv,jn] H') λr nD=>r= .bool (hK b fK)/\aR H' nD)
  (aS: ∀H',aR H H'->W (au P ao 34 [fu,lk] H') λr nD=>r= .bool (hK c c')/\aR H' nD):
  W (au P ao 62 [.agg (a.cells ev bv fu),.agg (er.cells ll jn lk)] H) λr H'=>r= .bool (p2 (.mk a es b c) (.mk er es' fK c'))/\aR H H':=by
 refine cU (λ_=>amq 0) ?_;have dS: ∀l,eW l (.agg (a.cells ev bv fu))=some (.ptr l 0 0,.row false 9 [a.cells ev bv fu]):=λl=>ij l _ (by simp only[dv.cells,List.all_cons,List.all_nil,iy,jJ,U,aa,ae,Bool.and_self])
 have cn: ∀l,eW l (.agg (er.cells ll jn lk))=some (.ptr l 0 0,.row false 9 [er.cells ll jn lk]):=λl=>ij l _ (by simp only[dv.cells,List.all_cons,List.all_nil,iy,jJ,fr,hb,hY,Bool.and_self])
 have aJ:=(aR.push H (.row false 9 [a.cells ev bv fu])).bV (.row false 9 [er.cells ll jn lk]);have g1:((H.push (.row false 9 [a.cells ev bv fu])).push (.row false 9 [er.cells ll jn lk])).get H.next=some (.row false 9 [a.cells ev bv fu]):=by simp-implicitDefEqProofs(disch:=try exact ag) only[dD]
 have g2:((H.push (.row false 9 [a.cells ev bv fu])).push (.row false 9 [er.cells ll jn lk])).get (H.next+1)=some (.row false 9 [er.cells ll jn lk]):=by simp-implicitDefEqProofs(disch:=try exact ag) only[dD]
 rw[p2];simp only[dv.cells] at dS cn aJ g1 g2 ⊢;cases c0:a.kind==er.kind with
 |false=>
  simp-implicitDefEqProofs(disch:=try exact ag) only[yl,reduceAdd,reduceLeDiff,reduceIte,az,ea,dS,cn,jj,c0];exact a8.2 ⟨by simp only[Bool.false_and,Bool.and_false],aJ⟩
 |true=>
 cases c2:a.name==er.name with
 |false=>
  simp-implicitDefEqProofs(disch:=try exact ag) only[yl,reduceAdd,reduceLeDiff,reduceIte,az,ea,dS,cn,jj,c0,c2];exact a8.2 ⟨by simp only[Bool.false_and,Bool.and_false],aJ⟩
 |true=>
 cases c3:(a.eQ==er.eQ&&a.fS==er.fS) with
 |false=>
  simp-implicitDefEqProofs(disch:=try exact ag) only[yl,reduceAdd,reduceLeDiff,reduceIte,az,ea,dS,cn,jj,c0,c2,c3];exact a8.2 ⟨by simp only[Bool.false_and,Bool.and_false],aJ⟩
 |true=>
 cases c5:a.ref==er.ref with
 |false=>
  simp-implicitDefEqProofs(disch:=try exact ag) only[yl,reduceAdd,reduceLeDiff,reduceIte,az,ea,dS,cn,jj,c0,c2,c3,c5];exact a8.2 ⟨by simp only[Bool.false_and,Bool.and_false],aJ⟩
 |true=>
 simp-implicitDefEqProofs(disch:=try exact ag) only[yl,reduceAdd,reduceLeDiff,reduceIte,az,ea,dS,cn,jj,c0,c2,c3,c5];refine hh (he _ aJ) ?_;rintro _ cQ ⟨rfl,bz⟩;refine⟨bz.1,?_⟩;have E8:=bz.get g1;have E9:=bz.get g2;cases d1:h_ es es' with
 |false=>
  simp-implicitDefEqProofs(disch:=try exact ag) only[reduceAdd,reduceLeDiff,reduceIte,az];exact a8.2 ⟨by simp only[Bool.false_and,Bool.and_false],aJ.trans bz⟩
 |true=>
 simp-implicitDefEqProofs(disch:=try exact ag) only[reduceAdd,reduceLeDiff,reduceIte,az,ea,E8,E9];refine hh (ay _ (aJ.trans bz)) ?_;rintro _ cu ⟨rfl,bK⟩;refine⟨bK.1,?_⟩;have MZ:=bK.get E8;have M0:=bK.get E9;cases d2:hK b fK with
 |false=>
  simp-implicitDefEqProofs(disch:=try exact ag) only[reduceAdd,reduceLeDiff,reduceIte,az];exact a8.2 ⟨by simp only[Bool.false_and,Bool.and_false],(aJ.trans bz).trans bK⟩
 |true=>
 simp-implicitDefEqProofs(disch:=try exact ag) only[reduceAdd,reduceLeDiff,reduceIte,az,ea,MZ,M0];refine hh (aS _ ((aJ.trans bz).trans bK)) ?_;rintro _ dc ⟨rfl,cO⟩;refine⟨cO.1,?_⟩;simp-implicitDefEqProofs(disch:=try exact ag) only[reduceAdd,reduceLeDiff,reduceIte,az];exact a8.2 ⟨by simp only[Bool.true_and],((aJ.trans bz).trans bK).trans cO⟩
theorem VD{N B:Nat}{hf iI iu li:Nat}{kc lc:Option Nat}{mm mn:Bool}{iM iN:List (List I)}{ok ok':Nat->Prop}: ∀(es eA:List cy) (j dN n:Nat) (H:J),(∀e∈es,tC 62 B e)->hi B es->gJ H ok es (iM.drop (iI+j))->gJ H ok' eA (iN.drop (li+j))->es.length=eA.length->dN=j+es.length->dN<=1000000000000->H.get hf=some (.row mm 9 iM)->H.get iu=some (.row mn 9 iN)->es.length<n->
  W (vn (au P ao) N n (.aM hf iI dN 9 kc) (.aM iu li dN 9 lc) (.int .i64 j) H) λr H'=>r= .bool (hK es eA)/\aR H H'
 |_,_,_,_,0,_,_,_,_,_,_,_,_,_,_,aV=>Z
 |[],[],j,dN,n+1,H,aO,eD,U,aa,ae,al,aB,aG,aP,aV=>by
  have bP: ¬((j:Int)<(dN:Int)):=by simp at al;omega
  simp-implicitDefEqProofs(disch:=try exact ag) only[vn,tW,zn,yh,reduceAdd,reduceLeDiff,reduceIte,az,bP,decide_false];exact a8.2 ⟨by rw[hK],.refl _⟩
 |[],_::_,j,dN,n+1,H,aO,eD,U,aa,ae,al,aB,aG,aP,aV=>by simp at ae
 |_::_,[],j,dN,n+1,H,aO,eD,U,aa,ae,al,aB,aG,aP,aV=>by simp at ae
 |e::es,f::eA,j,dN,n+1,H,aO,eD,U,aa,ae,al,aB,aG,aP,aV=>by
  simp only[List.length_cons] at ae al aV;have bP:(j:Int)<(dN:Int):=Z;have a6:(0:Int)<=(j:Int):=Z;have bC:((j:Int)).toNat=j:=Z;obtain⟨cs,g1,g2,g3⟩:=U.cons;obtain⟨bU,g4,g5,g6⟩:=aa.cons;obtain⟨_,cE,cx,eM⟩:=g2.cells;cases cE;obtain⟨_,eB,eN,gC⟩:=g5.cells;cases eB;have ra:List.take 9 cs=cs:=List.take_of_length_le Z;have rb:List.take 9 bU=bU:=List.take_of_length_le Z;have eI:=J.aW aG;have fB:=J.aW aP;rw[hi] at eD;have hw:IntKind.i64.wrap ((j:Int)+1)=((j+1:Nat):Int):=by rw[wrap_i64 Z Z];omega
  simp-implicitDefEqProofs(disch:=try exact ag) only[vn,tW,zn,yh,reduceAdd,reduceLeDiff,reduceIte,az,ea,bP,decide_true,bC,aG,aP,g1,g4,ra,rb];refine aY (aO e (by simp) eD.1 f _ _ _ ok ok' g2 g5) ?_;rintro _ bl ⟨rfl,aJ⟩;refine⟨aJ.1,?_⟩;cases aS:p2 e f with
  |false=>
   simp-implicitDefEqProofs(disch:=try exact ag) only[bj,bO,Bool.not_false];exact a8.2 ⟨by rw[hK,aS,Bool.false_and],aJ⟩
  |true=>
   simp-implicitDefEqProofs(disch:=try exact ag) only[bj,bO,ei,Bool.not_true,hw];refine(VD es eA (j+1) dN n bl (λcC lU=>aO cC (by simp[lU])) eD.2 (gJ.bo (fD.aK (aJ) λ_ h=>h) _ _ g3) (gJ.bo (fD.aK (aJ) λ_ h=>h) _ _ g6) Z Z aB ((aJ).get aG) ((aJ).get aP) Z).mono ?_;rintro v H' ⟨rfl,q⟩;exact⟨by rw[hK,aS,Bool.true_and],(aJ).trans q⟩
theorem Lz{B:Nat}(h5:B<=1000000000000){H:J}{ok ok':Nat->Prop}{bR ls:List cy}{bv jn:I}(aO: ∀e∈bR,tC 62 B e)(eD:bR.length<=B/\hi B bR)(U:eC H ok bR bv)(aa:eC H ok' ls jn):W (au P ao 34 [bv,jn] H) λr H'=>r= .bool (hK bR ls)/\aR H H':=by
 refine cU (λ_=>al4 (bR.length+1)) ?_;have z0:((0:Nat):Int)=0:=rfl;have bJ:=U.v8;have c2:=aa.v8;by_cases aV:bR.length=ls.length
 ·by_cases ct:bR.length=0
  ·have jP:ls.length=0:=Z;obtain rfl:=List.length_eq_zero_iff.1 ct;obtain rfl:=List.length_eq_zero_iff.1 jP;simp-implicitDefEqProofs(disch:=try exact ag) only[vn,tW,zn,yh,reduceAdd,reduceLeDiff,reduceIte,az,bJ,c2,List.length_nil,z0,bne_self_eq_false,Int.lt_irrefl,decide_false];exact a8.2 ⟨by rw[hK],.refl _⟩
  ·obtain⟨eI,i1,cS,gj,s3,rfl,cZ,g1,e8⟩:=U.row ct;obtain⟨fB,i2,dq,e3,v_,rfl,dk,g2,fT⟩:=aa.row Z;rw[<-aV];simp-implicitDefEqProofs(disch:=try exact ag) only[tW,yh,bj,bj,bO,fE,ei,Xz bR.length];exact VD bR ls 0 bR.length (bR.length+1) H aO eD.2 e8 fT aV Z Z g1 g2 Z
 ·have hk:=Xy _ _ aV;simp-implicitDefEqProofs(disch:=try exact ag) only[tW,zn,yh,bj,bj,bO,ei,bJ,c2,hk];exact a8.2 ⟨by rw[JA _ _ aV],.refl _⟩
theorem Le{B:Nat}(h5:B<=1000000000000): ∀(e:cy),tC 62 B e
 | .mk a es b c=>by
  intro eD f v w H ok ok' U aa;cases f with|mk er es' fK c'=>
  rw[tN] at U aa;obtain⟨ev,bv,fu,rfl,aI,bc,dm⟩:=U;obtain⟨ll,jn,lk,rfl,f1,f2,f3⟩:=aa;rw[kK] at eD;have Av: ∀e∈b,tC 62 B e:=λe he=>Le h5 e
  have Fq: ∀e∈c,tC 62 B e:=λe he=>Le h5 e
  exact ah8 aI.gq f1.gq bc.gq f2.gq dm.gq f3.gq (λH' p=>Vu h5 (λe _=>VS h5 e) eD.1 (aI.aK p) (f1.aK p))
   (λH' p=>Lz h5 Av eD.2.1 (bc.aK p) (f2.aK p)) (λH' p=>Lz h5 Fq eD.2.2 (dm.aK p) (f3.aK p))
 termination_by e=>SizeOf.sizeOf e
 decreasing_by
  ·exact cy.PP he
  ·exact cy.Qw he
end
section
set_option maxRecDepth 100000
noncomputable section
def yn(G:av)(Y ai:I)(H:J):O:=
 dA H (eW (H).next Y) λap U=>
 dA U (eW (U).next ai) λaC aa=>
 ab (aF P 98 ap 0) λbf=>
 ab (am P aa 3 bf) λbB=>
 ab (aF P 98 aC 0) λbu=>
 ab (am P aa 3 bu) λbS=>
 ab (aZ P .eql 3 false bB bS) λbF=>
 aD bF true aa (bm (aF P 98 ap 1)) λb8 ae=>
 aD bF true ae (qr (am P ae 9 b8)) λcb al=>
 aD bF true al (bm (aF P 98 aC 1)) λb0 aB=>
 aD bF true aB (qr (am P aB 9 b0)) λbT aG=>
 aD bF true aG (bm (aZ P .eql 9 false cb bT)) λbX aP=>
 ab (cW bF (some bX) (some (.bool false))) λbI=>
 aD bI true aP (bm (aF P 98 ap 2)) λcG bn=>
 aD bI true bn (qr (am P bn 43 cG)) λc6 bH=>
 aD bI true bH (bm (aF P 98 aC 2)) λcN co=>
 aD bI true co (qr (am P co 43 cN)) λcz dp=>
 aD bI true dp (bm (aZ P .eql 43 false c6 cz)) λc7 dR=>
 ab (cW bI (some c7) (some (.bool false))) λcI=>
 aD cI true dR (bm (aF P 98 ap 7)) λdn eF=>
 aD cI true eF (qr (am P eF 3 dn)) λdu fs=>
 aD cI true fs (bm (aF P 98 aC 7)) λdh fP=>
 aD cI true fP (qr (am P fP 3 dh)) λdT gG=>
 aD cI true gG (bm (aZ P .eql 3 false du dT)) λdI hM=>
 ab (cW cI (some dI) (some (.bool false))) λcH=>
 aD cH true hM (bm (aF P 98 ap 3)) λdV ht=>
 aD cH true ht (qr (am P ht 96 dV)) λef kL=>
 aD cH true kL (bm (aF P 98 aC 3)) λe6 iC=>
 aD cH true iC (qr (am P iC 96 e6)) λeg hU=>
 aD cH true hU (λq=>fo hU (G 91 [ef,eg,(.func (.func 92) [] [])] hU) q) λej kM=>
 ab (cW cH (some ej) (some (.bool false))) λed=>
 aD ed true kM (bm (aF P 98 ap 4)) λft hB=>
 aD ed true hB (qr (am P hB 44 ft)) λe7 pd=>
 aD ed true pd (bm (aF P 98 aC 4)) λfy lR=>
 aD ed true lR (qr (am P lR 44 fy)) λfW mP=>
 aD ed true mP (λq=>fo mP (G 64 [e7,fW,(.func (.func 65) [] [])] mP) q) λgv qh=>
 ab (cW ed (some gv) (some (.bool false))) λeU=>
 aD eU true qh (bm (aF P 98 ap 5)) λgb lS=>
 aD eU true lS (qr (am P lS 44 gb)) λgS wa=>
 aD eU true wa (bm (aF P 98 aC 5)) λju qi=>
 aD eU true qi (qr (am P qi 44 ju)) λhv mQ=>
 aD eU true mQ (λq=>fo mQ (G 64 [gS,hv,(.func (.func 65) [] [])] mQ) q) λh1 s4=>
 ab (cW eU (some h1) (some (.bool false))) λhV=>
 some (hV,s4)
theorem akr(G:av)(N:Nat)(Y:I)(ai:I)(H:J):bp Tryz.f65 G N (cF [Y,ai]) H=yn G Y ai H:=by
 refine cP (A:=bp Tryz.f65 G N) (aN _) ?_;delta yn;kernel_rfl
theorem ams(N:Nat){Y ai:I}{H:J}{r:I×J}(h:yn (au P ao) Y ai H=some r):au P ao 65 [Y,ai] H=some r:=
 cV ad Tryz.func65 ad ad ad ((akr (au P ao) N Y ai H).trans h)
def t8(G:av)(N:Nat)(H:J):O:=
 some ((.bool true),H)
theorem aeP(G:av)(N:Nat): ∀R H,cA P G N (Code.snd (Code.snd (Code.snd (di Tryz.f64)))) (b_ Tryz.f64) [] (b_ Tryz.f64) R H=t8 G N H:=by
 refine ds (aN _) λR H=> ?_
 delta t8;kernel_rfl
def zu(G:av)(N:Nat)(bE:I->I->I->I->I->J->O)(ai ap:I)(bX bI cc:I)(H:J):O:=
 ab (aZ P .lss 3 false cc bI) λcG=>
 bQ (some cG) (ab (en P 44 bX cc) λcN=>
 ab (am P H 98 cN) λcz=>
 cv H [(.int .i64 0),(.str []),(.str []),(.int .i64 0),I.an,I.an,I.an,(.int .i64 0),(.int .i64 0)] λbS U=>
 a1 U (aQ P U 98 bS cz) λaa=>
 ab (en P 44 ai cc) λdb=>
 ab (am P aa 98 db) λdn=>
 cv aa [(.int .i64 0),(.str []),(.str []),(.int .i64 0),I.an,I.an,I.an,(.int .i64 0),(.int .i64 0)] λbF ae=>
 a1 ae (aQ P ae 98 bF dn) λal=>
 ab (am P al 98 bS) λdh=>
 ab (am P al 98 bF) λdT=>
 qR G al ap [dh,dT] λdI aB=>
 ab (fh .not dI) λcH=>
 bQ (some cH) (some ((.bool false),aB)) (ab (aZ P .add 3 true cc (.int .i64 1)) λep=>
 bE ai ap bX bI ep aB)) (t8 G N H)
def vs(G:av)(N:Nat):Nat->I->I->I->I->I->J->O
 |0,_,_,_,_,_,_=>none
 |n+1,ai,ap,bX,bI,cc,H=>zu G N (vs G N n) ai ap bX bI cc H
theorem aeO(G:av)(N:Nat)(bE:I->I->I->I->I->J->O): ∀R H,cA P G N (Code.fst (Code.fst (Code.snd (Code.fst (Code.snd (Code.snd (di Tryz.f64))))))) (λR H=>bE (R 1) (R 2) (R 15) (R 16) (R 17) H) [(0,(λR H=>t8 G N H))] (b_ Tryz.f64) R H=zu G N bE (R 1) (R 2) (R 15) (R 16) (R 17) H:=by
 refine ds (aN _) λR H=> ?_
 delta zu;generalize t8 G N=ba;revert ba;refine id ?_;intro ba;kernel_rfl
def ym(G:av)(N:Nat)(Y ai ap:I)(H:J):O:=
 bj P .len [44] [Y] H λb8=>
 bj P .len [44] [ai] H λb0=>
 ab (aZ P .neq 3 false b8 b0) λbT=>
 bQ (some bT) (some ((.bool false),H)) (bj P .len [44] [Y] H λbI=>
 vs G N N ai ap Y bI (.int .i64 0) H)
theorem akq(G:av)(N:Nat)(Y:I)(ai:I)(ap:I)(H:J):bp Tryz.f64 G N (cF [Y,ai,ap]) H=ym G N Y ai ap H:=by
 refine cP (A:=bp Tryz.f64 G N) ((br ad ((br ad ((br ad (aeP G N) ((br ad ((fL ad ((gD (k:=λm R H=>vs G N m (R 1) (R 2) (R 15) (R 16) (R 17) H) ad (λR H=>ad) (λm=>aeO G N (vs G N m)))))) (aN _))))) (aN _))) (aN _))) ?_;delta ym;generalize vs G N N=ba;revert ba;refine id ?_;intro ba;kernel_rfl
theorem amr(N:Nat){Y ai ap:I}{H:J}{r:I×J}(h:ym (au P ao) N Y ai ap H=some r):au P ao 64 [Y,ai,ap] H=some r:=
 cV ad Tryz.func64 ad ad ad ((akq (au P ao) N Y ai ap H).trans h)
end
end
section
theorem ah7{H:J}{a er:dv}{es es':List bh}{b fK c c':List cy}{ev ll bv jn fu lk:I}(U:ev.one=true)(fr:ll.one=true)(aa:bv.one=true)(hb:jn.one=true)(ae:fu.one=true)(hY:lk.one=true)
  (he: ∀H',aR H H'->W (au P ao 91 [ev,ll,.func (.func 92) [] []] H') λr nD=>r= .bool (h_ es es')/\aR H' nD)
  (ay: ∀H',aR H H'->W (au P ao 64 [bv,jn,.func (.func 65) [] []] H') λr nD=>r= .bool (hK b fK)/\aR H' nD)
  (aS: ∀H',aR H H'->W (au P ao 64 [fu,lk,.func (.func 65) [] []] H') λr nD=>r= .bool (hK c c')/\aR H' nD):
  W (au P ao 65 [.agg (a.cells ev bv fu),.agg (er.cells ll jn lk)] H) λr H'=>r= .bool (p2 (.mk a es b c) (.mk er es' fK c'))/\aR H H':=by
 refine cU (λ_=>ams 0) ?_;have dS: ∀l,eW l (.agg (a.cells ev bv fu))=some (.ptr l 0 0,.row false 9 [a.cells ev bv fu]):=λl=>ij l _ (by simp only[dv.cells,List.all_cons,List.all_nil,iy,jJ,U,aa,ae,Bool.and_self])
 have cn: ∀l,eW l (.agg (er.cells ll jn lk))=some (.ptr l 0 0,.row false 9 [er.cells ll jn lk]):=λl=>ij l _ (by simp only[dv.cells,List.all_cons,List.all_nil,iy,jJ,fr,hb,hY,Bool.and_self])
 have aJ:=(aR.push H (.row false 9 [a.cells ev bv fu])).bV (.row false 9 [er.cells ll jn lk]);have g1:((H.push (.row false 9 [a.cells ev bv fu])).push (.row false 9 [er.cells ll jn lk])).get H.next=some (.row false 9 [a.cells ev bv fu]):=by simp-implicitDefEqProofs(disch:=try exact ag) only[dD]
 have g2:((H.push (.row false 9 [a.cells ev bv fu])).push (.row false 9 [er.cells ll jn lk])).get (H.next+1)=some (.row false 9 [er.cells ll jn lk]):=by simp-implicitDefEqProofs(disch:=try exact ag) only[dD]
 rw[p2];simp only[dv.cells] at dS cn aJ g1 g2 ⊢;cases c0:a.kind==er.kind with
 |false=>
  simp-implicitDefEqProofs(disch:=try exact ag) only[yn,reduceAdd,reduceLeDiff,reduceIte,az,ea,dS,cn,jj,c0];exact a8.2 ⟨by simp only[Bool.false_and,Bool.and_false],aJ⟩
 |true=>
 cases c2:a.name==er.name with
 |false=>
  simp-implicitDefEqProofs(disch:=try exact ag) only[yn,reduceAdd,reduceLeDiff,reduceIte,az,ea,dS,cn,jj,c0,c2];exact a8.2 ⟨by simp only[Bool.false_and,Bool.and_false],aJ⟩
 |true=>
 cases c3:(a.eQ==er.eQ&&a.fS==er.fS) with
 |false=>
  simp-implicitDefEqProofs(disch:=try exact ag) only[yn,reduceAdd,reduceLeDiff,reduceIte,az,ea,dS,cn,jj,c0,c2,c3];exact a8.2 ⟨by simp only[Bool.false_and,Bool.and_false],aJ⟩
 |true=>
 cases c5:a.ref==er.ref with
 |false=>
  simp-implicitDefEqProofs(disch:=try exact ag) only[yn,reduceAdd,reduceLeDiff,reduceIte,az,ea,dS,cn,jj,c0,c2,c3,c5];exact a8.2 ⟨by simp only[Bool.false_and,Bool.and_false],aJ⟩
 |true=>
 simp-implicitDefEqProofs(disch:=try exact ag) only[yn,reduceAdd,reduceLeDiff,reduceIte,az,ea,dS,cn,jj,c0,c2,c3,c5];refine hh (he _ aJ) ?_;rintro _ cQ ⟨rfl,bz⟩;refine⟨bz.1,?_⟩;have E8:=bz.get g1;have E9:=bz.get g2;cases d1:h_ es es' with
 |false=>
  simp-implicitDefEqProofs(disch:=try exact ag) only[reduceAdd,reduceLeDiff,reduceIte,az];exact a8.2 ⟨by simp only[Bool.false_and,Bool.and_false],aJ.trans bz⟩
 |true=>
 simp-implicitDefEqProofs(disch:=try exact ag) only[reduceAdd,reduceLeDiff,reduceIte,az,ea,E8,E9];refine hh (ay _ (aJ.trans bz)) ?_;rintro _ cu ⟨rfl,bK⟩;refine⟨bK.1,?_⟩;have MZ:=bK.get E8;have M0:=bK.get E9;cases d2:hK b fK with
 |false=>
  simp-implicitDefEqProofs(disch:=try exact ag) only[reduceAdd,reduceLeDiff,reduceIte,az];exact a8.2 ⟨by simp only[Bool.false_and,Bool.and_false],(aJ.trans bz).trans bK⟩
 |true=>
 simp-implicitDefEqProofs(disch:=try exact ag) only[reduceAdd,reduceLeDiff,reduceIte,az,ea,MZ,M0];refine hh (aS _ ((aJ.trans bz).trans bK)) ?_;rintro _ dc ⟨rfl,cO⟩;refine⟨cO.1,?_⟩;simp-implicitDefEqProofs(disch:=try exact ag) only[reduceAdd,reduceLeDiff,reduceIte,az];exact a8.2 ⟨by simp only[Bool.true_and],((aJ.trans bz).trans bK).trans cO⟩
theorem VC{N B:Nat}{hf iI iu li:Nat}{kc lc:Option Nat}{mm mn:Bool}{iM iN:List (List I)}{ok ok':Nat->Prop}: ∀(es eA:List cy) (j dN n:Nat) (H:J),(∀e∈es,tC 65 B e)->hi B es->gJ H ok es (iM.drop (iI+j))->gJ H ok' eA (iN.drop (li+j))->es.length=eA.length->dN=j+es.length->dN<=1000000000000->H.get hf=some (.row mm 9 iM)->H.get iu=some (.row mn 9 iN)->es.length<n->
  W (vs (au P ao) N n (.aM iu li dN 9 lc) (.func (.func 65) [] []) (.aM hf iI dN 9 kc) (.int .i64 dN) (.int .i64 j) H) λr H'=>r= .bool (hK es eA)/\aR H H'
 |_,_,_,_,0,_,_,_,_,_,_,_,_,_,_,aV=>Z
 |[],[],j,dN,n+1,H,aO,eD,U,aa,ae,al,aB,aG,aP,aV=>by
  have bP: ¬((j:Int)<(dN:Int)):=by simp at al;omega
  simp-implicitDefEqProofs(disch:=try exact ag) only[vs,t8,zu,ym,reduceAdd,reduceLeDiff,reduceIte,az,bP,decide_false];exact a8.2 ⟨by rw[hK],.refl _⟩
 |[],_::_,j,dN,n+1,H,aO,eD,U,aa,ae,al,aB,aG,aP,aV=>by simp at ae
 |_::_,[],j,dN,n+1,H,aO,eD,U,aa,ae,al,aB,aG,aP,aV=>by simp at ae
 |e::es,f::eA,j,dN,n+1,H,aO,eD,U,aa,ae,al,aB,aG,aP,aV=>by
  simp only[List.length_cons] at ae al aV;have bP:(j:Int)<(dN:Int):=Z;have a6:(0:Int)<=(j:Int):=Z;have bC:((j:Int)).toNat=j:=Z;obtain⟨cs,g1,g2,g3⟩:=U.cons;obtain⟨bU,g4,g5,g6⟩:=aa.cons;obtain⟨_,cE,cx,eM⟩:=g2.cells;cases cE;obtain⟨_,eB,eN,gC⟩:=g5.cells;cases eB;have ra:List.take 9 cs=cs:=List.take_of_length_le Z;have rb:List.take 9 bU=bU:=List.take_of_length_le Z;have eI:=J.aW aG;have fB:=J.aW aP;rw[hi] at eD;have hw:IntKind.i64.wrap ((j:Int)+1)=((j+1:Nat):Int):=by rw[wrap_i64 Z Z];omega
  have gB:=(aR.push H (.row false 9 [cs])).bV (.row false 9 [bU]);simp-implicitDefEqProofs(disch:=try exact ag) only[vs,t8,zu,ym,reduceAdd,reduceLeDiff,reduceIte,az,ea,bP,decide_true,bC,aG,aP,g1,g4,ra,rb,cx,eM,eN,gC,List.append_nil,sw,List.nil_append];refine aY (aO e (by simp) eD.1 f _ _ _ ok ok' (g2.aK gB) (g5.aK gB)) ?_;rintro _ bl ⟨rfl,aJ⟩;refine⟨aJ.1,?_⟩;cases aS:p2 e f with
  |false=>
   simp-implicitDefEqProofs(disch:=try exact ag) only[bj,bO,Bool.not_false];exact a8.2 ⟨by rw[hK,aS,Bool.false_and],gB.trans aJ⟩
  |true=>
   simp-implicitDefEqProofs(disch:=try exact ag) only[bj,bO,ei,Bool.not_true,hw];refine(VC es eA (j+1) dN n bl (λcC lU=>aO cC (by simp[lU])) eD.2 (gJ.bo (fD.aK (gB.trans aJ) λ_ h=>h) _ _ g3) (gJ.bo (fD.aK (gB.trans aJ) λ_ h=>h) _ _ g6) Z Z aB ((gB.trans aJ).get aG) ((gB.trans aJ).get aP) Z).mono ?_;rintro v H' ⟨rfl,q⟩;exact⟨by rw[hK,aS,Bool.true_and],(gB.trans aJ).trans q⟩
theorem Ly{B:Nat}(h5:B<=1000000000000){H:J}{ok ok':Nat->Prop}{bR ls:List cy}{bv jn:I}(aO: ∀e∈bR,tC 65 B e)(eD:bR.length<=B/\hi B bR)(U:eC H ok bR bv)(aa:eC H ok' ls jn):W (au P ao 64 [bv,jn,.func (.func 65) [] []] H) λr H'=>r= .bool (hK bR ls)/\aR H H':=by
 refine cU (λ_=>amr (bR.length+1)) ?_;have z0:((0:Nat):Int)=0:=rfl;have bJ:=U.v8;have c2:=aa.v8;by_cases aV:bR.length=ls.length
 ·by_cases ct:bR.length=0
  ·have jP:ls.length=0:=Z;obtain rfl:=List.length_eq_zero_iff.1 ct;obtain rfl:=List.length_eq_zero_iff.1 jP;simp-implicitDefEqProofs(disch:=try exact ag) only[vs,t8,zu,ym,reduceAdd,reduceLeDiff,reduceIte,az,bJ,c2,List.length_nil,z0,bne_self_eq_false,Int.lt_irrefl,decide_false];exact a8.2 ⟨by rw[hK],.refl _⟩
  ·obtain⟨eI,i1,cS,gj,s3,rfl,cZ,g1,e8⟩:=U.row ct;obtain⟨fB,i2,dq,e3,v_,rfl,dk,g2,fT⟩:=aa.row Z;rw[<-aV];simp-implicitDefEqProofs(disch:=try exact ag) only[t8,ym,bj,bj,bO,fE,ei,Xz bR.length];exact VC bR ls 0 bR.length (bR.length+1) H aO eD.2 e8 fT aV Z Z g1 g2 Z
 ·have hk:=Xy _ _ aV;simp-implicitDefEqProofs(disch:=try exact ag) only[t8,zu,ym,bj,bj,bO,ei,bJ,c2,hk];exact a8.2 ⟨by rw[JA _ _ aV],.refl _⟩
theorem Ld{B:Nat}(h5:B<=1000000000000): ∀(e:cy),tC 65 B e
 | .mk a es b c=>by
  intro eD f v w H ok ok' U aa;cases f with|mk er es' fK c'=>
  rw[tN] at U aa;obtain⟨ev,bv,fu,rfl,aI,bc,dm⟩:=U;obtain⟨ll,jn,lk,rfl,f1,f2,f3⟩:=aa;rw[kK] at eD;have Av: ∀e∈b,tC 65 B e:=λe he=>Ld h5 e
  have Fq: ∀e∈c,tC 65 B e:=λe he=>Ld h5 e
  exact ah7 aI.gq f1.gq bc.gq f2.gq dm.gq f3.gq (λH' p=>Vv h5 (λe _=>VT h5 e) eD.1 (aI.aK p) (f1.aK p))
   (λH' p=>Ly h5 Av eD.2.1 (bc.aK p) (f2.aK p)) (λH' p=>Ly h5 Fq eD.2.2 (dm.aK p) (f3.aK p))
 termination_by e=>SizeOf.sizeOf e
 decreasing_by
  ·exact cy.PP he
  ·exact cy.Qw he
end
end Go.Proofs.YtghmbpmaafnodaaGreatDoor
