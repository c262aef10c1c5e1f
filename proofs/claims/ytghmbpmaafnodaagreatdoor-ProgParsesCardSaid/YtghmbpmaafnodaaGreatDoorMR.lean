/-
  Texts of one proof, laid together: A2 A3 A4 A5 Lz Qi Qj ShU N1 ShUa N1b.
-/
import Derived.Test.YtghmbpmaafnodaaGreatDoorMP
import Derived.Test.YtghmbpmaafnodaaGreatDoorMO
import Derived.Test.YtghmbpmaafnodaaGreatDoorMD
import Derived.Test.YtghmbpmaafnodaaGreatDoorMK
import Derived.Test.YtghmbpmaafnodaaGreatDoorMN
import Derived.Test.YtghmbpmaafnodaaGreatDoorMH
set_option linter.unusedVariables false
set_option linter.unusedSimpArgs false
namespace Go.Proofs.YtghmbpmaafnodaaGreatDoor.jz
open Go.gd
open Nat (reduceAdd reduceLeDiff)
section
theorem Tb{H:J}(s:bl)(c:UInt8):aq P ao 66 [.str s,.int .u8 c.toNat] H=some (.int .i64 (Lib.indexByte s c),H):=by
 refine GJ ?_;show some (I.int .i64 (Lib.indexByte s (Int.toNat (c.toNat:Int)).toUInt8),H)=_;have:(Int.toNat (c.toNat:Int)).toUInt8=c:=by simp
 rw[this]
theorem am7{H:J}(s:bl):aq P ao 66 [.str s,.int .u8 10] H=some (.int .i64 (Lib.indexByte s 10),H):=Tb s 10
theorem aeT(c:UInt8):decide (0<=Lib.indexByte [32,9,10,13] c)=py c:=by
 have h: ∀n:Fin 256,decide (0<=Lib.indexByte [32,9,10,13] (UInt8.ofNat n.val))=py (UInt8.ofNat n.val):=by decide+kernel
 have:=h ⟨c.toNat,c.toNat_lt⟩;simpa using this
theorem V1(s:bl):Lib.indexByte s 10= -1\/ ∃n:Nat,Lib.indexByte s 10=n/\n<s.length:=by
 induction s with
 |nil=>exact .inl rfl
 |cons b l aT=>
  rw[Lib.indexByte];split
  ·exact .inr ⟨0,rfl,by simp⟩
  ·split
   ·exact .inl rfl
   ·rename_i h;rcases aT with aT|⟨n,e,aU⟩
    ·rw[aT] at h;exact absurd rfl h
    ·exact .inr ⟨n+1,Z,by simpa using aU⟩
theorem PK: ∀(s:bl),(Lib.indexByte s 10= -1->eh true s=s.length)/\ ∀n:Nat,Lib.indexByte s 10=n->eh true s=n+eh false (s.drop n)
 |[]=>⟨λ_=>rfl,λn h=>by simp[Lib.indexByte] at h⟩
 |b::l=>by
  obtain⟨ih1,ih2⟩:=PK l;rw[Lib.indexByte,eh];by_cases ax:b=10
  ·subst ax;simp only[beq_self_eq_true,if_true];refine⟨λh=>Z,λn h=> ?_⟩;obtain rfl:n=0:=Z;have U:(UInt8.toNat 10==10)=true:=rfl;have aa:py 10=true:=rfl;rw[List.drop_zero,eh,U,aa];simp
  ·have U:(b==10)=false:=by simpa using ax
   have aa:(b.toNat==10)=false:=by
    have:b.toNat≠10:=λe=>ax (UInt8.toNat_inj.1 (by rw[e];rfl))
    simpa using this
   rw[U,aa];simp only[Bool.false_eq_true,if_false,bj];rcases V1 l with h|⟨k,h,ah⟩
   ·rw[h];simp only[beq_self_eq_true,if_true];refine⟨λ_=> ?_,λn e=> ?_⟩
    ·rw[ih1 h,List.length_cons]
    ·exfalso;omega
   ·rw[h];have ae:((k:Int)== -1)=false:=by simp
    rw[ae];simp only[Bool.false_eq_true,if_false];refine⟨λe=>Z,λn e=> ?_⟩;obtain rfl:n=k+1:=Z;rw[ih2 k h,List.drop_succ_cons];omega
theorem ane(c:UInt8)(r:bl):preB (c::r) [47,47]=(c==47&&r.head?==some 47):=by
 cases r with
 |nil=>simp[preB]
 |cons d q=>
  simp only[preB,List.length_cons,List.length_nil,List.take_succ_cons,List.take_zero,List.head?_cons];cases U:c==47<;>cases aa:d==47<;>simp_all
theorem Sd{s:bl}{a:Nat}(h:a<=s.length):kj P 9 (.str s) (some (.int .i64 (a:Int))) none none=some (.str (s.drop a)):=by
 have bc:hM (some (.int .i64 (a:Int))) 0 s.length=some a:=by simp[hM];omega
 have aI:hM none s.length s.length=some s.length:=rfl;simp only[kj,HX,aI,bc];rw[List.take_of_length_le (by simp)]
theorem Vs{s:bl}{b:Nat}(h:b<=s.length):kj P 9 (.str s) none (some (.int .i64 (b:Int))) none=some (.str (s.take b)):=by
 have aI:hM (some (.int .i64 (b:Int))) s.length s.length=some b:=by simp[hM];omega
 have bc:hM none 0 b=some 0:=rfl;simp only[kj,HX,aI,bc,List.drop_zero,Nat.sub_zero]
theorem JO{H:J}{s:bl}(aM:s.length<=1000000000000000000)(N:Nat): ∀(m:Nat) (rest:bl) (at_:Nat),s.drop at_=rest->at_<=s.length->rest.length<m->
  W (xj (aq P ao) N m (.str s) (.int .i64 at_) H) λv H'=>v= .int .i64 ((at_+eh false rest:Nat):Int)/\H'=H
 |0,_,_,_,_,hm=>Z
 |m+1,[],at_,h,bV,hm=>by
  have:=drop_nil h;have U: ¬((at_:Int)<(s.length:Int)):=Z;simp-implicitDefEqProofs(disch:=try exact af) only[xj,zx,D9,Dc,reduceAdd,reduceLeDiff,reduceIte,aw,U,decide_false];exact a_.2 ⟨by simp[eh],rfl⟩
 |m+1,c::r,at_,h,bV,hm=>by
  obtain⟨aI,bc,dq,eZ⟩:=drop_cons h;have U:((at_:Int)<(s.length:Int)):=Z;have hp:=pe aI;have ff:=Sd (s:=s) (a:=at_) Z;rw[h] at ff;have aod:=aeT c;rw[eh];simp only[List.length_cons] at hm;simp-implicitDefEqProofs(disch:=try exact af) only[xj,zx,D9,Dc,reduceAdd,reduceLeDiff,reduceIte,aw,U,decide_true,hp,Tb,aO,bN,aod];cases r8:py c with
  |true=>
   simp-implicitDefEqProofs(disch:=try exact af) only[bg,bL,ee,mC];refine(JO (H:=H) aM N m r (at_+1) bc Z Z).mono ?_;rintro v H' ⟨rfl,rfl⟩;have cN:at_+1+eh false r=at_+(eh false r+1):=Z;exact⟨by rw[cN],rfl⟩
  |false=>
   simp-implicitDefEqProofs(disch:=try exact af) only[bg,bL,ff];refine lB (Om _ _) ?_;rw[ane];cases bw:(c==47&&r.head?==some 47) with
   |false=>
    simp-implicitDefEqProofs(disch:=try exact af) only[bg,bL];exact a_.2 ⟨by simp,rfl⟩
   |true=>
    have aS:(c::r).head?=some 47:=by
     have:c=47:=by have:=(Bool.and_eq_true _ _▸bw).1;exact eq_of_beq this
     rw[this];rfl
    have As:eh true (c::r)=eh true r+1:=by
     have:c=47:=by simpa using aS
     subst this;rw[eh];rfl
    rw[bC,<-As];obtain⟨cD,cu⟩:=PK (c::r);simp-implicitDefEqProofs(disch:=try exact af) only[bg,bL,ff,am7,aO,bN,decide_true];rcases V1 (c::r) with be|⟨n,be,aU⟩
    ·have et:((-1:Int)<0):=Z;rw[be];simp-implicitDefEqProofs(disch:=try exact af) only[reduceAdd,reduceLeDiff,reduceIte,aw,et,decide_true];refine a_.2 ⟨?_,rfl⟩;rw[cD be];have:at_+(c::r).length=s.length:=by simp only[List.length_cons];omega
     rw[this]
    ·have et: ¬((n:Int)<0):=Z;rw[be];have Fc:1<=n:=by
      rcases Nat.eq_zero_or_pos n with rfl|bZ
      ·exfalso;have:c=47:=by simpa using aS
       subst this;rw[Lib.indexByte] at be;rw[if_neg cm] at be;have:=Lib.indexByte_ge r 10;split at be
       ·omega
       ·rename_i ag;have:Lib.indexByte r 10≠ -1:=by simpa using ag
        omega
      ·exact bZ
     have an8:s.drop (at_+n)=(c::r).drop n:=by rw[<-List.drop_drop,h]
     simp only[List.length_cons] at aU;simp-implicitDefEqProofs(disch:=try exact af) only[reduceAdd,reduceLeDiff,reduceIte,aw,et,decide_false,si];refine(JO (H:=H) aM N m ((c::r).drop n) (at_+n) an8 Z (by simp;omega)).mono ?_;rintro v H' ⟨rfl,rfl⟩;rw[cu n be,Nat.add_assoc];exact⟨rfl,rfl⟩
theorem Pg{H:J}{s:bl}(aM:s.length<=1000000000000000000){at_:Nat}(bV:at_<=s.length):W (aq P ao 46 [.str s,.int .i64 at_] H) λv H'=>v= .int .i64 ((at_+eh false (s.drop at_):Nat):Int)/\H'=H:=by
 refine cP (λ_=>ale (s.length+1)) ?_;rw[Dc];exact JO aM (s.length+1) (s.length+1) (s.drop at_) at_ rfl bV (by simp;omega)
end
section
theorem Tn: ∀(x:bl) (a:Nat),(∀c∈x,gK c=true)->Lib.parseUint10 a x= .range\/ ∃u,Lib.parseUint10 a x= .ok u/\a<=u
 |[],a,_=> .inr ⟨a,rfl,bN _⟩
 |c::r,a,h=>by
  have bd:=h c (by simp);simp only[gK,oo,Bool.and_eq_true,decide_eq_true_eq] at bd;rw[Lib.parseUint10,if_pos ⟨Z,Z⟩];split
  ·exact .inl rfl
  ·split
   ·exact .inl rfl
   ·rcases Tn r (a*10+(c.toNat-48)) (λd bd=>h d (by simp[bd])) with bZ|⟨u,U,aa⟩
    ·exact .inl bZ
    ·exact .inr ⟨u,U,Z⟩
theorem R1: ∀(x:bl) (a:Nat),(∀c∈x,gK c=true)->a<9223372036854775808->
  (∀v,kK a x=some v-> ∃u:Nat,Lib.parseUint10 a x= .ok u/\(u:Int)=v/\u<9223372036854775808)/\(kK a x=none->Lib.parseUint10 a x= .range\/ ∃u,Lib.parseUint10 a x= .ok u/\9223372036854775808<=u)
 |[],a,_,bV=>⟨λv h=>by rw[kK] at h;cases h;exact⟨a,rfl,rfl,bV⟩,λh=>by rw[kK] at h;cases h⟩
 |c::r,a,h,bV=>by
  have bd:=h c (by simp);simp only[gK,oo,Bool.and_eq_true,decide_eq_true_eq] at bd;have a8: ∀d∈r,gK d=true:=λd bd=>h d (by simp[bd])
  have FS:Lib.parseUint10 a (c::r)=if 1844674407370955162<=a then .range else if 18446744073709551616<=a*10+(c.toNat-48) then .range else Lib.parseUint10 (a*10+(c.toNat-48)) r:=by
   rw[Lib.parseUint10,if_pos ⟨Z,Z⟩]
  rw[kK,FS];have aI:(10*(a:Int)+((c.toNat:Int)-48))=((a*10+(c.toNat-48):Nat):Int):=Z;by_cases VX:(9223372036854775807-((c.toNat:Int)-48))/10<(a:Int)
  ·rw[if_pos VX];refine⟨λv h=>(by cases h),λ_=> ?_⟩;split
   ·exact .inl rfl
   ·split
    ·exact .inl rfl
    ·rcases Tn r (a*10+(c.toNat-48)) a8 with bZ|⟨u,U,aa⟩
     ·exact .inl bZ
     ·exact .inr ⟨u,U,Z⟩
  ·rw[if_neg VX,if_neg Z,if_neg Z,aI];exact R1 r (a*10+(c.toNat-48)) a8 Z
theorem aeQ{c:UInt8}{r:bl}(h: ∀d∈c::r,gK d=true):(∀v,kK 0 (c::r)=some v->Lib.atoiAll (c::r)= .ok v)/\(kK 0 (c::r)=none->Lib.atoiAll (c::r)= .range):=by
 have bd:=h c (by simp);simp only[gK,oo,Bool.and_eq_true,decide_eq_true_eq] at bd;have MS: ¬c.toNat=43:=Z;have Ia: ¬c.toNat=45:=Z;obtain⟨cD,cu⟩:=R1 (c::r) 0 h Z;have nR:((0:Nat):Int)=0:=rfl;rw[nR] at cD cu;have hm:Lib.parseMag (c::r)=Lib.parseUint10 0 (c::r):=by rw[Lib.parseMag,if_neg (by simp)]
 constructor
 ·intro v bA;obtain⟨u,U,aa,ae⟩:=cD v bA;have h_: ¬(9223372036854775808<=u):=Z;simp only[Lib.atoiAll,MS,Ia,or_self,if_false,hm,U,h_,not_false_eq_true,true_and,false_and,and_false];rw[aa]
 ·intro bA;rcases cu bA with U|⟨u,U,aa⟩
  ·simp only[Lib.atoiAll,MS,Ia,or_self,if_false,hm,U]
  ·simp only[Lib.atoiAll,MS,Ia,or_self,if_false,hm,U,Ia,not_false_eq_true,true_and];rw[if_pos aa]
theorem afM{H:J}(aZ:kr H){s:bl}(aM:s.length<=281474976710656){v:Int}(h:Lib.atoiAll s= .ok v):aq P ao 99 [.str s] H=some (.tuple [.int .i64 v,.nilIface],H):=by
 refine GJ ?_;refine(if_pos ⟨aM,aZ.err⟩).trans ?_;rw[h]
theorem abh{H:J}(aZ:kr H){s:bl}(aM:s.length<=281474976710656)(h:Lib.atoiAll s= .range):aq P ao 99 [.str s] H=some (.tuple [.int .i64 (Lib.atoiSat s),.iface 152 (.ptr H.next 0 0)],H.push .dead):=by
 refine GJ ?_;refine(if_pos ⟨aM,aZ.err⟩).trans ?_;rw[h]
theorem akD:aW P .neq 126 true .nilIface .nilIface=some (.bool false):=ad
theorem akC(l:Nat):aW P .neq 126 true (.iface 152 (.ptr l 0 0)) .nilIface=some (.bool true):=ad
theorem R_: ∀(s:bl),∀c∈s.take (runN true s),gK c=true
 |[],c,h=>by simp[runN] at h
 |b::r,c,h=>by
  rw[runN] at h;cases ax:gK b with
  |false=>rw[ax] at h;simp at h
  |true=>
   rw[ax] at h;simp only[Bool.true_or,bC,List.take_succ_cons,List.mem_cons] at h;rcases h with rfl|h
   ·exact ax
   ·exact R_ r c h
theorem Lb(k:Int)(x:bl):cO P 57 [(0,.int .i64 k),(1,.str x)]=some (.agg [.int .i64 k,.str x,.int .i64 0,.int .i64 0]):=ad
theorem GU(k:Int)(z:Int):cO P 57 [(0,.int .i64 k),(2,.int .i64 z)]=some (.agg [.int .i64 k,.str [],.int .i64 z,.int .i64 0]):=ad
def vQ(s:bl):Option (Int×bl×Int×Nat):=match kK 0 (s.take (runN true s)) with
 |none=>none
 |some v=>bif (decide (1<runN true s)&&(s.headD 0).toNat==48)||(decide (runN true s<s.length)&&hf ((s[runN true s]?).getD 0)) then none else some (2,[],v,runN true s)
theorem aaU{H:J}(aZ:kr H){s:bl}(aM:s.length<=281474976710656){c:UInt8}{r:bl}(aS:s=c::r)(bd:gK c=true):W (aq P ao 71 [.str s] H) λv H'=>v=uw 0 (vQ s)/\aR H H':=by
 refine cP (λ_=>alC 0) ?_;have mX:kr (H.push (.row false 4 [[.int .i64 0,.str [],.int .i64 0,.int .i64 0]])):=aZ.aK (aR.push _ _);have hle:=DT true s;have ox:1<=runN true s:=by rw[aS];exact KE true c r (by simp[bd])
 have ff:=Vs (s:=s) (b:=runN true s) hle;have cn:s[0]? =some c:=by rw[aS];rfl
 have nR:=Hh cn;have WP:=R_ s;have Yq:s.headD 0=c:=by rw[aS];rfl
 obtain⟨hT,iU⟩: ∃hT,s.take (runN true s)=c::hT:=by
  rw[aS] at ox ⊢;obtain⟨k,ah⟩: ∃k,runN true (c::r)=k+1:=⟨runN true (c::r)-1,Z⟩;rw[ah];exact⟨_,rfl⟩
 rw[iU] at WP;obtain⟨cD,cu⟩:=aeQ WP;have et:(s.take (runN true s)).length<=281474976710656:=by simp;omega
 simp-implicitDefEqProofs(disch:=try exact af) only[IV,reduceAdd,reduceLeDiff,reduceIte,aw];refine lB (Kh (s:=s) Z true) ?_;generalize anW:H.push (.row false 4 [[.int .i64 0,.str [],.int .i64 0,.int .i64 0]])=H1 at mX ⊢;have aV:aR (H.push (.row false 4 [[.int .i64 0,.str [],.int .i64 0,.int .i64 0]])) H1:=by rw[anW];exact .refl _
 have g1:H1.get H.next=some (.row false 4 [[.int .i64 0,.str [],.int .i64 0,.int .i64 0]]):=aV.get (J.ca _ _)
 have aqp:=J.aX g1;have z8: ∀b,aR H (H1.set H.next b):=λb=>((aR.push _ _).trans aV).db (bN _) b
 cases bA:kK 0 (s.take (runN true s)) with
 |none=>
  have bV:=abh mX et (by rw[iU] at bA ⊢;exact cu bA);simp-implicitDefEqProofs(disch:=try exact af) only[reduceAdd,reduceLeDiff,reduceIte,aw,ff,bV,aO,Nat.le_succ,decide_true,akC,g1];have dU:vQ s=none:=by unfold vQ;rw[bA]
  exact a_.2 ⟨by rw[dU];rfl,(((aR.push _ _).trans aV).bX _).db (bN _) _⟩
 |some v=>
  have bV:=afM mX et (by rw[iU] at bA ⊢;exact cD v bA);simp-implicitDefEqProofs(disch:=try exact af) only[reduceAdd,reduceLeDiff,reduceIte,aw,ff,bV,aO,bN,decide_true,akD];have C1:decide ((1:Int)<((runN true s:Nat):Int))=decide (1<runN true s):=by
   by_cases h:1<runN true s<;>simp[h]<;>omega
  have jT:decide (((runN true s:Nat):Int)<(s.length:Int))=decide (runN true s<s.length):=by
   by_cases h:runN true s<s.length<;>simp[h]<;>omega
  have Aq:(((c.toNat:Nat):Int)==48)=(c.toNat==48):=by
   cases h:c.toNat==48 with
   |true=>have:c.toNat=48:=eq_of_beq h;rw[this];rfl
   |false=>
    have:c.toNat≠48:=by simpa using h
    simp;omega
  have bad:((decide (1<runN true s)&&(c.toNat==48))||(decide (runN true s<s.length)&&hf ((s[runN true s]?).getD 0)))=true->vQ s=none:=by
   intro ag;unfold vQ;rw[bA];simp only[Yq,ag,bC]
  have ow:((decide (1<runN true s)&&(c.toNat==48))||(decide (runN true s<s.length)&&hf ((s[runN true s]?).getD 0)))=false->vQ s=some (2,[],v,runN true s):=by
   intro ag;unfold vQ;rw[bA];simp only[Yq,ag,bj]
  have aka:(decide (1<runN true s)=true/\(c.toNat==48)=true)\/(decide (1<runN true s)=true/\(c.toNat==48)=false)\/decide (1<runN true s)=false:=by
   cases decide (1<runN true s)<;>cases c.toNat==48<;>simp
  rcases aka with⟨cU,b3⟩|⟨cU,b3⟩|cU
  ·simp-implicitDefEqProofs(disch:=try exact af) only[reduceAdd,reduceLeDiff,reduceIte,aw,C1,cU,nR,Aq,b3,g1];exact a_.2 ⟨by rw[bad (by rw[cU,b3];rfl)];rfl,z8 _⟩
  ·rw[cU,b3] at bad ow;simp-implicitDefEqProofs(disch:=try exact af) only[reduceAdd,reduceLeDiff,reduceIte,aw,C1,cU,nR,Aq,b3,jT];cases eB:decide (runN true s<s.length) with
   |false=>
    rw[eB] at ow;simp-implicitDefEqProofs(disch:=try exact af) only[reduceAdd,reduceLeDiff,reduceIte,aw,GU,g1];exact a_.2 ⟨by rw[ow rfl];rfl,z8 _⟩
   |true=>
    rw[eB] at bad ow;have Mf:runN true s<s.length:=of_decide_eq_true eB;obtain⟨d,hE⟩: ∃d,s[runN true s]? =some d:=⟨_,List.getElem?_eq_getElem Mf⟩;have An:=pe hE;rw[hE] at bad ow;simp-implicitDefEqProofs(disch:=try exact af) only[reduceAdd,reduceLeDiff,reduceIte,aw,An];refine rA (Do _) ?_;have b0:hf ((some d).getD 0)=lf (d.toNat:Int):=rfl;rw[b0] at bad ow;cases aG:lf (d.toNat:Int) with
    |true=>
     rw[aG] at bad;simp-implicitDefEqProofs(disch:=try exact af) only[reduceAdd,reduceLeDiff,reduceIte,aw,g1];exact a_.2 ⟨by rw[bad rfl];rfl,z8 _⟩
    |false=>
     rw[aG] at ow;simp-implicitDefEqProofs(disch:=try exact af) only[reduceAdd,reduceLeDiff,reduceIte,aw,GU,g1];exact a_.2 ⟨by rw[ow rfl];rfl,z8 _⟩
  ·rw[cU] at bad ow;simp-implicitDefEqProofs(disch:=try exact af) only[reduceAdd,reduceLeDiff,reduceIte,aw,C1,cU,nR,Aq,jT];cases eB:decide (runN true s<s.length) with
   |false=>
    rw[eB] at ow;simp-implicitDefEqProofs(disch:=try exact af) only[reduceAdd,reduceLeDiff,reduceIte,aw,GU,g1];exact a_.2 ⟨by rw[ow rfl];rfl,z8 _⟩
   |true=>
    rw[eB] at bad ow;have Mf:runN true s<s.length:=of_decide_eq_true eB;obtain⟨d,hE⟩: ∃d,s[runN true s]? =some d:=⟨_,List.getElem?_eq_getElem Mf⟩;have An:=pe hE;rw[hE] at bad ow;simp-implicitDefEqProofs(disch:=try exact af) only[reduceAdd,reduceLeDiff,reduceIte,aw,An];refine rA (Do _) ?_;have b0:hf ((some d).getD 0)=lf (d.toNat:Int):=rfl;rw[b0] at bad ow;cases aG:lf (d.toNat:Int) with
    |true=>
     rw[aG] at bad;simp-implicitDefEqProofs(disch:=try exact af) only[reduceAdd,reduceLeDiff,reduceIte,aw,g1];exact a_.2 ⟨by rw[bad rfl];rfl,z8 _⟩
    |false=>
     rw[aG] at ow;simp-implicitDefEqProofs(disch:=try exact af) only[reduceAdd,reduceLeDiff,reduceIte,aw,GU,g1];exact a_.2 ⟨by rw[ow rfl];rfl,z8 _⟩
end
section
def BT(s:bl):Option (Int×bl×Int×Nat):=bif rV (s.take (runN false s)) then some (3,s.take (runN false s),0,runN false s) else bif iG (s.take (runN false s)) then some (1,s.take (runN false s),0,runN false s) else none
theorem abI{H:J}(aZ:kr H){s:bl}(aM:s.length<=281474976710656):W (aq P ao 69 [.str s] H) λv H'=>v=uw 0 (BT s)/\aR H H':=by
 refine cP (λ_=>alA 0) ?_;have mX:kr (H.push (.row false 4 [[.int .i64 0,.str [],.int .i64 0,.int .i64 0]])):=aZ.aK (aR.push _ _);have hle:=DT false s;have ff:=Vs (s:=s) (b:=runN false s) hle;have et:(s.take (runN false s)).length<=1000000000000000000:=by simp;omega
 simp-implicitDefEqProofs(disch:=try exact af) only[IT,reduceAdd,reduceLeDiff,reduceIte,aw];refine lB (Kh (s:=s) Z false) ?_;simp-implicitDefEqProofs(disch:=try exact af) only[reduceAdd,reduceLeDiff,reduceIte,aw,ff];refine a6 (PW mX _) ?_;rintro _ bm ⟨rfl,aJ⟩;refine⟨aJ.1,?_⟩;have g2:bm.get H.next=some (.row false 4 [[.int .i64 0,.str [],.int .i64 0,.int .i64 0]]):=aJ.get (J.ca _ _)
 have H_:=J.aX g2;have ao6: ∀b,aR H (bm.set H.next b):=λb=>((aR.push _ _).trans aJ).db (bN _) b
 cases hw:rV (s.take (runN false s)) with
 |true=>
  simp-implicitDefEqProofs(disch:=try exact af) only[reduceAdd,reduceLeDiff,reduceIte,aw,Lb,g2];exact a_.2 ⟨by rw[BT,hw];rfl,ao6 _⟩
 |false=>
  simp-implicitDefEqProofs(disch:=try exact af) only[bg,bL];refine a6 (abE (mX.aK aJ) et) ?_;rintro _ cT ⟨rfl,bB⟩;refine⟨bB.1,?_⟩;have g3:=bB.get g2;have aqq:=J.aX g3;have Y1: ∀b,aR H (cT.set H.next b):=λb=>(((aR.push _ _).trans aJ).trans bB).db (bN _) b
  cases aU:iG (s.take (runN false s)) with
  |true=>
   simp-implicitDefEqProofs(disch:=try exact af) only[reduceAdd,reduceLeDiff,reduceIte,aw,Lb,g3];exact a_.2 ⟨by rw[BT,hw,aU];rfl,Y1 _⟩
  |false=>
   simp-implicitDefEqProofs(disch:=try exact af) only[reduceAdd,reduceLeDiff,reduceIte,aw,g3];exact a_.2 ⟨by rw[BT,hw,aU];rfl,Y1 _⟩
def oh(s:bl):List bl->Option (Int×bl×Int×Nat)
 |[]=>none
 |y::dX=>bif preB s y then some (4,y,0,y.length) else oh s dX
theorem Qz(s:bl): ∀(l m:List bl),oh s (l++m)=(oh s l).or (oh s m)
 |[],m=>rfl
 |y::dX,m=>by
  rw[List.cons_append,oh,oh,Qz s dX m];cases preB s y<;>rfl
theorem QB(s:bl): ∀(l:List bl),(∀y∈l,y.length=2)->oh s l=bif decide (2<=s.length)&&lh (s.take 2) l then some (4,s.take 2,0,2) else none
 |[],_=>by simp[oh,lh]
 |y::dX,h=>by
  have cV:=h y (by simp);rw[oh,lh,QB s dX λz cn=>h z (by simp[cn]),preB,cV];cases aa:decide (2<=s.length) with
  |false=>simp
  |true=>
   have aS:(s.take 2==y)=(y==s.take 2):=by
    cases bZ:y==s.take 2 with
    |true=>rw[<-eq_of_beq bZ];simp
    |false=>
     have:y≠s.take 2:=by simpa using bZ
     simpa using λe:s.take 2=y=>this e.symm
   rw[aS];cases ae:y==s.take 2 with
   |true=>rw[<-eq_of_beq ae];simp
   |false=>simp
theorem QA(c:UInt8)(r:bl): ∀(l:bl),oh (c::r) (l.map λy=>[y])=bif o0 c l then some (4,[c],0,1) else none
 |[]=>rfl
 |y::dX=>by
  rw[List.map_cons,oh,o0,QA c r dX];have bw:preB (c::r) [y]=(c.toNat==y.toNat):=by
   simp only[preB,List.length_cons,List.length_nil,List.take_succ_cons,List.take_zero];cases h:c.toNat==y.toNat with
   |true=>
    have:c=y:=UInt8.toNat_inj.1 (eq_of_beq h);simp[this]
   |false=>
    have:c≠y:=by rintro rfl;simp at h
    simp[this]
  rw[bw];cases h:c.toNat==y.toNat with
  |true=>
   have:c=y:=UInt8.toNat_inj.1 (eq_of_beq h);simp[this]
  |false=>simp
theorem aa4(c:UInt8)(r:bl):oh (c::r) vF=bif lg (c::r)==[] then none else some (4,lg (c::r),0,(lg (c::r)).length):=by
 have e:vF=oV++mn.map λy=>[y]:=rfl
 rw[e,Qz,QB _ oV cm,QA];unfold lg;cases h:decide (2<=(c::r).length)&&lh ((c::r).take 2) oV with
 |true=>
  have aa:2<=(c::r).length:=of_decide_eq_true ((Bool.and_eq_true _ _).mp h).1;cases r with
  |nil=>simp at aa
  |cons d q=>rfl
 |false=>
  cases hm:o0 c mn<;>simp[hm]
theorem Q0{H0 H:J}{s:bl}{L:Nat}(N:Nat)(all:List bl)(hS:all.length<=1000)(aZ:H.get L=some (.row false 1 (all.map λy=>[I.str y])))(ag:H.get H0.next=some (.row false 4 [[.int .i64 0,.str [],.int .i64 0,.int .i64 0]]))(ni: ∀b,aR H0 (H.set H0.next b)):
  ∀(rest pre:List bl),all=pre++rest-> ∀(m:Nat),rest.length<m->
  W (xl (aq P ao) N m (.str s) (.ptr H0.next 0 0) (.aN L 0 all.length 1 (some all.length)) (.int .i64 all.length) (.int .i64 pre.length) H) λv H'=>v=uw 0 (oh s rest)/\aR H0 H'
 |_,_,_,0,hm=>Z
 |[],pre,bw,m+1,hm=>by
  have U: ¬((pre.length:Int)<(all.length:Int)):=by rw[bw];simp
  have rc:=J.aX ag;simp-implicitDefEqProofs(disch:=try exact af) only[xl,xk,B2,Dd,reduceAdd,reduceLeDiff,reduceIte,aw,U,decide_false,ag];exact a_.2 ⟨rfl,ni _⟩
 |y::dX,pre,bw,m+1,hm=>by
  have U:((pre.length:Int)<(all.length:Int)):=by rw[bw];simp;omega
  have aY:(0:Int)<=(pre.length:Int):=Z;have aI:((pre.length:Int)).toNat=pre.length:=Z;have hle:pre.length<all.length:=Z;have he:(all.map λy=>[I.str y])[pre.length]? =some [I.str y]:=by rw[bw];simp
  have hw:((pre++[y]).length:Int)=((pre.length+1:Nat):Int):=by simp
  have rc:=J.aX ag;simp-implicitDefEqProofs(disch:=try exact af) only[xl,xk,B2,Dd,reduceAdd,reduceLeDiff,reduceIte,aw,U,decide_true,aZ,aI,he];refine lB (Om s y) ?_;cases aS:preB s y with
  |true=>
   simp-implicitDefEqProofs(disch:=try exact af) only[reduceAdd,reduceLeDiff,reduceIte,aw,Lb,ag];exact a_.2 ⟨by rw[oh,aS];rfl,ni _⟩
  |false=>
   have aT:=Q0 (s:=s) N all hS aZ ag ni dX (pre++[y]) (by simp[bw]) m (by simp at hm;omega);rw[hw] at aT;simp-implicitDefEqProofs(disch:=try exact af) only[bg,bL,ee,mC];refine aT.mono ?_;rintro v H' ⟨rfl,p⟩;exact⟨by rw[oh,aS];rfl,p⟩
theorem ac7{H:J}(aZ:kr H){s:bl}(aM:s.length<=281474976710656){c:UInt8}{r:bl}(aS:s=c::r):W (aq P ao 47 [.str s] H) λv H'=>v=uw 0 (j6 s)/\aR H H':=by
 refine cP (λ_=>alf 24) ?_;have mX:kr (H.push (.row false 4 [[.int .i64 0,.str [],.int .i64 0,.int .i64 0]])):=aZ.aK (aR.push _ _);have nR:=Hh (s:=s) (b:=c) (by rw[aS];rfl);have dD:hf c=lf (c.toNat:Int):=rfl;have nG:gK c=oo (c.toNat:Int):=rfl;have put: ∀{bm:J} (x:Option (Int×bl×Int×Nat)),aR (H.push (.row false 4 [[.int .i64 0,.str [],.int .i64 0,.int .i64 0]])) bm-> ∃a b NS m,uw 0 x= .tuple [.agg [.int .i64 a,.str b,.int .i64 NS,.int .i64 0],.int .i64 m]:=λx _=>by
  cases x with
  |none=>exact⟨0,[],0,0,rfl⟩
  |some q=>exact⟨q.1,q.2.1,q.2.2.1,q.2.2.2,rfl⟩
 simp-implicitDefEqProofs(disch:=try exact af) only[xk,B2,Dd,reduceAdd,reduceLeDiff,reduceIte,aw,nR];refine lB (Do _) ?_;cases az:lf (c.toNat:Int) with
 |true=>
  have bt:j6 s=BT s:=by rw[aS,j6,dD,az];rfl
  rw[bt];simp-implicitDefEqProofs(disch:=try exact af) only[bg,bL];refine a6 (abI mX aM) ?_;rintro _ bm ⟨rfl,aJ⟩;refine⟨aJ.1,?_⟩;have g2:=aJ.get (J.ca H (.row false 4 [[.int .i64 0,.str [],.int .i64 0,.int .i64 0]]));have H_:=J.aX g2;obtain⟨a,b,NS,m,ag⟩:=put (BT s) aJ;rw[ag];simp-implicitDefEqProofs(disch:=try exact af) only[reduceAdd,reduceLeDiff,reduceIte,aw,g2];exact a_.2 ⟨rfl,((aR.push _ _).trans aJ).db (bN _) _⟩
 |false=>
  simp-implicitDefEqProofs(disch:=try exact af) only[bg,bL,nR];refine lB (JA _) ?_;cases bd:oo (c.toNat:Int) with
  |true=>
   have bt:j6 s=vQ s:=by
    rw[aS,j6,dD,az,nG,bd];rfl
   rw[bt];simp-implicitDefEqProofs(disch:=try exact af) only[bg,bL];refine a6 (aaU mX aM aS (by rw[nG,bd])) ?_;rintro _ bm ⟨rfl,aJ⟩;refine⟨aJ.1,?_⟩;have g2:=aJ.get (J.ca H (.row false 4 [[.int .i64 0,.str [],.int .i64 0,.int .i64 0]]));have H_:=J.aX g2;obtain⟨a,b,NS,m,ag⟩:=put (vQ s) aJ;rw[ag];simp-implicitDefEqProofs(disch:=try exact af) only[reduceAdd,reduceLeDiff,reduceIte,aw,g2];exact a_.2 ⟨rfl,((aR.push _ _).trans aJ).db (bN _) _⟩
  |false=>
   have bt:j6 s=oh s vF:=by
    rw[aS,aa4,j6,dD,az,nG,bd];rfl
   rw[bt];simp-implicitDefEqProofs(disch:=try exact af) only[bg,bL];refine a6 (aaQ mX) ?_;rintro _ _ ⟨rfl,rfl⟩;refine⟨(aR.push _ _).1,?_⟩;simp-implicitDefEqProofs(disch:=try exact af) only[bg,fH,bg,bL];refine Q0 (H0:=H) 24 vF cm (J.ca _ _) ?_ (λb=>((aR.push _ _).bX _).db (bN _) b) vF [] rfl 24 cm;simp-implicitDefEqProofs(disch:=try exact af) only[dB]
end
section
theorem QM{H0:J}(Yo:kr H0){s:bl}(aM:s.length<=6000)(N:Nat): ∀(n:Nat) (rest:bl) (at_ m:Nat) (T:List Tok) (v:I) (H:J),s.drop at_=rest->at_<=s.length->vZ (H0.push (.row false 2 [[.int .i64 0,.int .i64 0]])) H v T->aR (H0.push (.row false 2 [[.int .i64 0,.int .i64 0]])) H->T.length<=at_->rest.length<n->rest.length<m->
  W (xg (aq P ao) N m (.str s) (.ptr H0.next 0 0) v (.int .i64 at_) H) (GH H0 (rY T (jo n rest at_)))
 |0,_,_,_,_,_,_,_,_,_,_,_,aU,_=>Z
 |_,_,_,0,_,_,_,_,_,_,_,_,_,hm=>Z
 |n+1,[],at_,m+1,T,v,H,h,bV,ax,p,aH,aU,hm=>by
  have hlen:=drop_nil h;have U: ¬((at_:Int)<(s.length:Int)):=Z;have CS:s.length=at_:=Z;have g:H.get H0.next=some (.row false 2 [[.int .i64 0,.int .i64 0]]):=p.get (J.ca _ _)
  have rc:=J.aX g;obtain⟨dr,H',hg,ia,qn,s9,Ee⟩:=GI ax p Z ⟨0,[],0,s.length⟩;have ff:=G6 H.next ⟨0,[],0,s.length⟩
  simp only[Tok.v] at ff;simp-implicitDefEqProofs(disch:=try exact af) only[xg,rF,vj,uL,reduceAdd,reduceLeDiff,reduceIte,aw,U,decide_false,VJ,ff,hg,kx];have g':H'.get H0.next=some (.row false 2 [[.int .i64 0,.int .i64 0]]):=by
   rw[Ee _ rc ?_];exact g;intro e he;rcases ax with⟨rfl,_⟩|⟨l,rfl,az,_⟩
   ·cases he
   ·cases he;simp only[J.b2] at az;omega
  have anQ:=J.aX g';have cp:cj (some (.agg [.int .i64 0,.int .i64 0])) (.agg [.int .i64 0,.int .i64 0])=true:=by simp[cj,I.beq,jR.beq]
  simp-implicitDefEqProofs(disch:=try exact af) only[rF,vj,uL,reduceAdd,reduceLeDiff,reduceIte,aw,g',cp];have en:aR H0 H':=(aR.push _ _).trans qn;have ew:aR H0 (H'.set H0.next (.row false 2 [[.int .i64 0,.int .i64 0]])):=en.db (bN _) _;refine a_.2 ⟨dr,rfl,?_,ew⟩;rw[jo];simp only[rY];rw[CS] at ia;exact ia.tok.bo λl ro els e=>by
   rw[J.get_set_other];exact e;rintro rfl;rw[g'] at e;cases e
 |n+1,c::r,at_,m+1,T,v,H,h,bV,ax,p,aH,aU,hm=>by
  obtain⟨aI,bc,dq,eZ⟩:=drop_cons h;have U:((at_:Int)<(s.length:Int)):=Z;have g:H.get H0.next=some (.row false 2 [[.int .i64 0,.int .i64 0]]):=p.get (J.ca _ _)
  have rc:=J.aX g;simp-implicitDefEqProofs(disch:=try exact af) only[xg,rF,vj,uL,reduceAdd,reduceLeDiff,reduceIte,aw,U,decide_true];have aob:kr H:=(Yo.aK (aR.push _ _)).aK p;have W2:=Sd (s:=s) (a:=at_) Z;rw[h] at W2;simp-implicitDefEqProofs(disch:=try exact af) only[bg,bL,W2];refine a6 (ac7 aob (s:=c::r) (by simp only[List.length_cons];omega) rfl) ?_;rintro _ bm ⟨rfl,aJ⟩;refine⟨aJ.1,?_⟩;have g2:=aJ.get g;have H_:=J.aX g2;have ck:=ax.aK aJ;replace p:=p.trans aJ;rw[jo];cases bt:j6 (c::r) with
  |none=>
   simp only[uw];simp-implicitDefEqProofs(disch:=try exact af) only[rF,vj,uL,reduceAdd,reduceLeDiff,reduceIte,aw,VI,beq_self_eq_true,g2,J.io];have cp:cj (some (.agg [.int .i64 1,.int .i64 at_])) (.agg [.int .i64 1,.int .i64 at_])=true:=by simp[cj,I.beq,jR.beq]
   refine a_.2 ⟨.ap,rfl,.inl ⟨rfl,rfl⟩,?_⟩;exact(((aR.push _ _).trans p).db (bN _) _).bX _
  |some q=>
   obtain⟨k,t,z,b⟩:=q;obtain⟨df,cU⟩:=KA bt;have MY:((b:Int)==0)=false:=by simp;omega
   simp only[uw];simp only[List.length_cons] at cU aU hm;obtain⟨dr,H',hg,ia,qn,s9,Ee⟩:=GI (ck.aK (aR.push bm (.row false 4 [Tok.cells ⟨k,t,z,at_⟩]))) (p.bX _) Z ⟨k,t,z,at_⟩;have ff:=G6 (bm.next+1) ⟨k,t,z,at_⟩;simp only[Tok.v] at ff;simp only[Tok.cells,J.b2] at hg s9;simp only[Tok.cells] at ff;have cp: ∀wy:J,cj (some (.agg [.int .i64 k,.str t,.int .i64 z,.int .i64 at_])) (.agg [.int .i64 k,.str t,.int .i64 z,.int .i64 at_])=true:=λ_=>by simp[cj,I.beq,jR.beq]
   simp-implicitDefEqProofs(disch:=try exact af) only[rF,vj,uL,reduceAdd,reduceLeDiff,reduceIte,aw,MY,ff,hg,kx,si];have mW:s.drop (at_+b)=(c::r).drop b:=by rw[<-List.drop_drop,h]
   have r8:=wK ((c::r).drop b) false;simp only[List.length_drop,List.length_cons] at r8;refine lB (Pg Z (at_:=at_+b) Z) ?_;rw[mW];have L_:at_+b+eh false ((c::r).drop b)<=s.length:=Z;have aT:=QM Yo aM N n (s.drop (at_+b+eh false ((c::r).drop b))) (at_+b+eh false ((c::r).drop b)) m (T++[⟨k,t,z,at_⟩]) dr H' rfl L_ ia qn (by simp;omega) (by simp;omega) (by simp;omega);refine aT.mono ?_;rintro w nF ⟨ak,cD,cu,eH⟩;have M3:s.drop (at_+b+eh false ((c::r).drop b))=((c::r).drop b).drop (eh false ((c::r).drop b)):=by rw[<-List.drop_drop,mW]
   rw[M3] at cD cu;have pn:rY (T++[⟨k,t,z,at_⟩]) (jo n (((c::r).drop b).drop (eh false ((c::r).drop b))) (at_+b+eh false ((c::r).drop b)))=rY T (match jo n (((c::r).drop b).drop (eh false ((c::r).drop b))) (at_+b+eh false ((c::r).drop b)) with
     | .inl e=> .inl e
     | .inr l=> .inr (⟨k,t,z,at_⟩::l)):=by
    cases jo n (((c::r).drop b).drop (eh false ((c::r).drop b))) (at_+b+eh false ((c::r).drop b)) with
    |inl e=>rfl
    |inr l=>simp[rY]
   rw[pn] at cD cu;exact⟨ak,cD,cu,eH⟩
theorem aag{H:J}(aZ:kr H)(s:bl):W (aq P ao 16 [.str s] H) (GH H (hL s)):=by
 refine cP (λ_=>akO (s.length+1)) ?_;by_cases aG:(6000:Int)<(s.length:Int)
 ·have wa:6000<s.length:=Z;simp-implicitDefEqProofs(disch:=try exact af) only[rF,vj,uL,reduceAdd,reduceLeDiff,reduceIte,aw,aG,decide_true];refine a_.2 ⟨.ap,by simp[hL,wa],.inl ⟨rfl,by simp[hL,wa]⟩,aR.push _ _⟩
 ·have wa: ¬6000<s.length:=Z;simp-implicitDefEqProofs(disch:=try exact af) only[rF,uL,reduceAdd,reduceLeDiff,reduceIte,aw,aG,decide_false];refine lB (Pg (s:=s) Z (at_:=0) Z) ?_;simp only[List.drop_zero,Nat.zero_add];have r8:=wK s false;refine(QM (H0:=H) aZ Z (s.length+1) (s.length+1) (s.drop (eh false s)) (eh false s) (s.length+1) [] .ap _ rfl r8 (.inl ⟨rfl,rfl⟩) (.refl _) (by simp) (by simp;omega) (by simp;omega)).mono ?_;rintro v H' ⟨ak,cD,cu,eH⟩;have pn:rY [] (jo (s.length+1) (s.drop (eh false s)) (eh false s))=hL s:=by
   simp only[hL,if_neg wa,Cx];cases jo (s.length+1) (s.drop (eh false s)) (eh false s)<;>rfl
  rw[pn] at cD cu;exact⟨ak,cD,cu,eH⟩
end
end Go.Proofs.YtghmbpmaafnodaaGreatDoor.jz
namespace Go.Proofs.YtghmbpmaafnodaaGreatDoor
open Go.gd
open Nat (reduceAdd reduceLeDiff)
section
theorem RQ: ∀(n:Nat) (rest:bl) (p:Nat) (l:List Tok),jo n rest p= .inr l->l.length<=rest.length+1
 |0,_,_,_,h=>by simp[jo] at h
 |n+1,[],p,l,h=>by simp[jo] at h;subst h;simp
 |n+1,c::r,p,l,h=>by
  rw[jo] at h;cases bt:j6 (c::r) with
  |none=>rw[bt] at h;simp at h
  |some q=>
   obtain⟨k,t,z,b⟩:=q;obtain⟨df,cU⟩:=KA bt;rw[bt] at h;simp only at h;cases az:jo n (((c::r).drop b).drop (eh false ((c::r).drop b))) (p+b+eh false ((c::r).drop b)) with
   |inl e=>rw[az] at h;cases h
   |inr l'=>
    rw[az] at h;cases h;have:=RQ n _ _ l' az;simp only[List.length_drop,List.length_cons] at this cU ⊢;omega
theorem aa7(s:bl):(hL s).1.length<=s.length+1:=by
 unfold hL;split
 ·simp
 ·cases h:Cx s with
  |inl e=>simp
  |inr l=>
   have:=RQ _ _ _ l h;simp only[List.length_drop] at this;simp only
   omega
end
section
theorem QH: ∀(n:Nat) (s:bl) (p:Nat) (l:List Tok),jo n s p= .inr l-> ∃L q,l=L++[⟨0,[],0,q⟩]
 |0,_,_,_,h=>by cases h
 |n+1,[],p,l,h=>by cases h;exact⟨[],_,rfl⟩
 |n+1,c::r,p,l,h=>by
  rw[jo] at h;split at h
  ·cases h
  ·rename_i k t v m bt;split at h
   ·cases h
   ·rename_i l' az;cases h;obtain⟨L,q,rfl⟩:=QH n _ _ _ az;exact⟨⟨k,t,v,p⟩::L,q,rfl⟩
theorem K3{s:bl}(h:(hL s).2.1=0):hG (hL s).1/\1<=(hL s).1.length:=by
 have az:=aa7 s;have bt:= @aeK s;have aG:s.length<=6000:=by
  unfold hL at h;split at h
  ·simp at h
  ·omega
 obtain⟨L,q,e⟩: ∃L q,(hL s).1=L++[⟨0,[],0,q⟩]:=by
  unfold hL at h ⊢;rw[if_neg Z] at h ⊢;cases ag:Cx s with
  |inl e=>rw[ag] at h;simp at h
  |inr l=>exact QH _ _ _ _ ag
 rw[e] at az bt ⊢;simp only[List.length_append,List.length_cons,List.length_nil] at az ⊢;refine⟨⟨by simp;omega,by simp;omega,λa bV=> ?_,bt⟩,Z⟩;have kP:=Vw bV;simp only[List.length_append,List.length_cons,List.length_nil] at kP ⊢;by_cases et:a<L.length
 ·omega
 ·exfalso;have hg:a.toNat=L.length:=Z;apply bV;unfold ar;rw[if_neg (by simp;omega),hg,List.getElem?_append_right (bN _),Nat.sub_self];rfl
def oi(T:List Tok)(N:Nat):Nat->eA->aA->R eA
 |0,_,_=>none
 |n+1,g,s=>bif s.aC==0&&(ar T s.at_).kind != 0 then
  (bif b7 T s 3 [114,101,99,111,114,100] then(wV T N g s).bind λp=>oi T N n p.1 p.2
  else bif b7 T s 3 [103,108,111,98,97,108] then oi T N n (k8 T g s).1 (k8 T g s).2
  else bif b7 T s 3 [102,117,110,99] then(wN T N g s).bind λp=>oi T N n p.1 p.2
  else oi T N n g (cS T 2 s))
  else some (g,s)
section
variable {H H' H1:J}{r:Nat}{T:List Tok}{ak b9 b8 b_:I}{s s':aA}
theorem Tt{n:Nat}{g g':eA}(h:wV T n g s=some (g',s')):g'.el.length=g.el.length+1/\g'.globals.length=g.globals.length/\g'.funcs.length=g.funcs.length:=by
 obtain⟨p,-,g2⟩:=hX h;cases g2;simp
theorem S_{n:Nat}{g g':eA}(h:wN T n g s=some (g',s')):g'.el.length=g.el.length/\g'.globals.length=g.globals.length/\g'.funcs.length<=g.funcs.length+1:=by
 obtain⟨p,-,g2⟩:=hX h;simp only[bF] at g2;have e7:=congrArg Prod.fst g2;unfold oq at e7;split at e7
 ·simp only at e7;rw[<-e7];simp
 ·simp only at e7;rw[<-e7];simp
theorem DH{N:Nat}(aH:hG T){Q:I->J->Prop}{an ay:I}{g':eA}
  (ek: ∀H,tm r H1 H->nQ H r T ak g' s'->W (zO (aq P ao) N an ay (.ptr r 0 0) H) Q) (M:Nat) (jA:M<=800000000):
  ∀(n m:Nat) (H:J) (s:aA) (g:eA),n<m->g.el.length+n<=900000000->g.globals.length+n<=900000000->g.funcs.length+n<=900000000->tm r H1 H->nQ H r T ak g s->oi T M n g s=some (g',s')->W (zP (aq P ao) N m an ay (.ptr r 0 0) H) Q
 |_,0,_,_,_,aU,_,_,_,_,_,_=>Z
 |0,m+1,_,_,_,_,_,_,_,_,_,al=>by cases al
 |n+1,m+1,H,s,g,aU,eG,fA,gS,fK,h,al=>by
  rw[oi] at al;rw[zP];unfold Hr;obtain⟨b9,b8,b_,cG,dh,dL,dm,bz,df,cU,b3,bM,c2,c3⟩:=id h;refine a6 (yF dm) ?_;rintro _ bm ⟨rfl,rfl⟩;refine⟨bN _,?_⟩;by_cases aY:s.aC=0
  ·have mu:(s.aC != 0)=false:=by simpa using aY
   have ii:(s.aC==0)=true:=by simpa using aY
   rw[ii,Bool.true_and] at al;simp-implicitDefEqProofs(disch:=try exact af) only[bg,bL,mu,Bool.not_false];refine gP (Bw dm) ?_;rintro _ cT ⟨rfl,bB⟩;refine⟨bB.1,?_⟩;have Y4:=dm.aK bB;have bo: ∀{Dh:J},aR bm Dh->nQ Dh r T ak g s:=λp=>nQ.mut bz df cU b3 bM c2 c3 (p.mut _) (dm.aK p)
   cases ah:((ar T s.at_).kind != 0) with
   |false=>
    rw[ah,bj] at al;cases al;simp-implicitDefEqProofs(disch:=try exact af) only[bg,bL,ee,fH,Tok.v,ah];exact ek _ (fK.trans (bB.mut _)) (bo bB)
   |true=>
    rw[ah,bC] at al;have e3:(ar T s.at_).kind≠0:=by simpa using ah
    simp-implicitDefEqProofs(disch:=try exact af) only[bg,bL,ee,fH,Tok.v,ah];refine a6 (BD Y4 3 _) ?_;rintro _ ct ⟨rfl,bK⟩;refine⟨bK.1,?_⟩;have Y5:=Y4.aK bK;have pf:=bB.trans bK;cases a8:b7 T s 3 [114,101,99,111,114,100] with
    |true=>
     rw[a8,bC] at al;obtain⟨⟨g2,s2⟩,aI,bc⟩:=hX al;have hlen:=Tt aI;simp-implicitDefEqProofs(disch:=try exact af) only[bg,bL];refine a6 (aaj aH Z (bo pf) Z e3 aI) ?_;rintro _ dp ⟨m5,aB⟩;exact⟨m5.1,DH aH ek M jA n m dp s2 g2 Z Z Z Z ((fK.trans (pf.mut _)).trans m5) aB bc⟩
    |false=>
     rw[a8,bj] at al;simp-implicitDefEqProofs(disch:=try exact af) only[bg,bL];refine a6 (BD Y5 3 _) ?_;rintro _ dp ⟨rfl,c8⟩;refine⟨c8.1,?_⟩;have Y6:=Y5.aK c8;have NC:=pf.trans c8;cases aZ:b7 T s 3 [103,108,111,98,97,108] with
     |true=>
      rw[aZ,bC] at al;simp-implicitDefEqProofs(disch:=try exact af) only[bg,bL];refine a6 (aai aH (bo NC) Z e3) ?_;rintro _ fW ⟨m6,aG⟩;exact⟨m6.1,DH aH ek M jA n m fW _ _ Z (by simp only[k8];omega) (by simp only[k8,List.length_append,List.length_cons,List.length_nil];omega) (by simp only[k8];omega) ((fK.trans (NC.mut _)).trans m6) aG al⟩
     |false=>
      rw[aZ,bj] at al;simp-implicitDefEqProofs(disch:=try exact af) only[bg,bL];refine a6 (BD Y6 3 _) ?_;rintro _ fW ⟨rfl,fc⟩;refine⟨fc.1,?_⟩;have ao_:=Y6.aK fc;have Db:=NC.trans fc;cases jr:b7 T s 3 [102,117,110,99] with
      |true=>
       rw[jr,bC] at al;obtain⟨⟨g2,s2⟩,aI,bc⟩:=hX al;have hlen:=S_ aI;simp-implicitDefEqProofs(disch:=try exact af) only[bg,bL];refine a6 (ZO aH jA (bo Db) Z e3 aI) ?_;rintro _ fX ⟨m7,aP⟩;exact⟨m7.1,DH aH ek M jA n m fX s2 g2 Z Z Z Z ((fK.trans (Db.mut _)).trans m7) aP bc⟩
      |false=>
       rw[jr,bj] at al;simp-implicitDefEqProofs(disch:=try exact af) only[bg,bL];refine a6 (Gg ao_ (e:=2) cm) ?_;rintro _ fX ⟨rfl,m7,apa⟩;refine⟨m7.1,DH aH ek M jA n m fX _ g Z Z Z Z ((fK.trans (Db.mut _)).trans m7.so) ?_ al⟩;exact nQ.mut bz (df.bo (eb.aK Db)) (cU.bo (eb.aK Db)) (b3.bo (eb.aK Db)) bM c2 c3 m7 apa
  ·have mu:(s.aC != 0)=true:=by simpa using aY
   have ii:(s.aC==0)=false:=by simpa using aY
   rw[ii] at al;cases al;simp-implicitDefEqProofs(disch:=try exact af) only[bg,bL,mu,Bool.not_true];exact ek _ fK h
end
end
section
def Q_(H0:J)(x:eA×Int×Int)(v:I)(H':J):Prop:= ∃b9 b8 b_,v= .tuple [.agg [b9,b8,b_],.agg [.int .i64 x.2.1,.int .i64 x.2.2]]/\eJ gA H' (bI H0.next) x.1.el b9/\eJ fz H' (bI H0.next) x.1.globals b8/\eJ gw H' (bI H0.next) x.1.funcs b_/\aR H0 H'
def qP(s:bl)(g:eA)(s':aA):eA×Int×Int:=if(hL s).2.1=0 then xB g s' else(.none,(hL s).2.1,(hL s).2.2)
theorem afO{ak:I}{T:List Tok}{H:J}(h:ih H ak T):cO P 55 [(0,ak)]=some (.agg [ak,.int .i64 0,.ap,.ap,.ap,.int .i64 0,.int .i64 0]):=by
 rcases h with⟨rfl,_⟩|⟨l,i,cap,rfl,_⟩<;>kernel_rfl
theorem HM(a b:Int):cj (some (.agg [.int .i64 a,.int .i64 b])) (.agg [.int .i64 a,.int .i64 b])=true:=by simp[cj,I.beq,jR.beq]
section
variable {H:J}
theorem Pf(aZ:jz.kr H)(s:bl){g':eA}{s':aA}{M n:Nat}(jA:M<=800000000)(aU:n<=800000000)(bw:(hL s).2.1=0->oi (hL s).1 M n .none ⟨0,0,0,0⟩=some (g',s')):W (aq P ao 8 [.str s] H) (Q_ H (qP s g' s')):=by
 refine cP (λ_=>ang (n+1)) ?_;have en:=(aR.push H (.row false 3 [[.ap,.ap,.ap]])).bX (.row false 2 [[.int .i64 0,.int .i64 0]]);simp-implicitDefEqProofs(disch:=try exact af) only[Jd,bg,bL,List.length_cons,List.length_nil,Nat.zero_add,Nat.reduceAdd];refine a6 (jz.aag (aZ.aK en) s) ?_;rintro _ cT ⟨ak,rfl,wk,bB⟩;refine⟨bB.1,?_⟩;have e7:=bB.get ((aR.push (H.push (.row false 3 [[.ap,.ap,.ap]])) (.row false 2 [[.int .i64 0,.int .i64 0]])).get (J.ca H (.row false 3 [[.ap,.ap,.ap]])));have gG:=bB.get (J.ca (H.push (.row false 3 [[.ap,.ap,.ap]])) (.row false 2 [[.int .i64 0,.int .i64 0]]));have jC:=bB.1
 simp only[J.b2] at jC gG;have Az:= @K3 s;unfold qP;generalize hL s=cf at wk bw Az ⊢;obtain⟨T,aC,cv⟩:=cf;simp only at wk bw Az ⊢;have eE:=aR.push cT (.row false 2 [[.int .i64 aC,.int .i64 cv]]);have gc:=J.ca cT (.row false 2 [[.int .i64 aC,.int .i64 cv]]);have qY:=eE.get e7;have r6:=eE.get gG;have mF:(cT.push (.row false 2 [[.int .i64 aC,.int .i64 cv]])).next=cT.next+1:=by simp only[J.b2]
 have bK:=(en.trans bB).trans eE;have te:=wk.aK eE;by_cases al:aC=0
 ·subst al;have z0:((0:Int) != 0)=false:=rfl;simp-implicitDefEqProofs(disch:=try exact af) only[bg,bL,aj,dx,aQ,dx,Nat.reduceAdd,Nat.reduceLeDiff,reduceIte,I.cells,eF,fu,dB,fH,ee,J.io,z0];generalize cT.push (.row false 2 [[.int .i64 0,.int .i64 cv]])=ct at eE gc qY r6 mF bK te ⊢;obtain⟨aH,az⟩:=Az rfl;have o_:=afO te;have de:=te.one;have ij: ∀l,eK l (.agg [ak,.int .i64 0,.ap,.ap,.ap,.int .i64 0,.int .i64 0])=some (.ptr l 0 0,.row false 7 [[ak,.int .i64 0,.ap,.ap,.ap,.int .i64 0,.int .i64 0]]):=λl=>h8 l _ (by simp only[List.all_cons,List.all_nil,iF,Bv,de,Bool.and_self])
  have eR:=aR.push ct (.row false 7 [[ak,.int .i64 0,.ap,.ap,.ap,.int .i64 0,.int .i64 0]]);have rs:nQ (ct.push (.row false 7 [[ak,.int .i64 0,.ap,.ap,.ap,.int .i64 0,.int .i64 0]])) ct.next T ak .none ⟨0,0,0,0⟩:=by
   refine⟨.ap,.ap,.ap,(λ_=>False),(λ_=>False),(λ_=>False),⟨J.ca _ _,te.aK eR,Int.le_refl _,by(try simp only);omega,aH.n,λ_=>rfl,rfl,rfl,rfl,rfl⟩,?_,fJ.nil,fJ.nil,fJ.nil,λ_ h=>h.elim,λ_ h=>h.elim,λ_ h=>h.elim⟩;intro l i m e c bA;rcases te with⟨rfl,_⟩|⟨l',qm,cap,rfl,b0⟩
   ·cases bA
   ·cases bA;obtain⟨ro,els,cD,-⟩:=b0.resolve_left (by rintro rfl;simp at az);exact J.aX cD
  simp-implicitDefEqProofs(disch:=try exact af) only[bg,bL,o_,ij];refine DH (H1:=ct.push (.row false 7 [[ak,.int .i64 0,.ap,.ap,.ap,.int .i64 0,.int .i64 0]])) aH (λfW m6 aG=> ?_) M jA n (n+1) _ _ .none Z (by simp only[eA.none,List.length_nil];omega) (by simp only[eA.none,List.length_nil];omega) (by simp only[eA.none,List.length_nil];omega) (dC.refl _ _) rs (bw rfl);obtain⟨b9,b8,b_,cG,dh,dL,dm,bz,df,cU,b3,bM,c2,c3⟩:=aG;have A8:=m6.1;simp only[J.b2] at A8;have Ao:=m6.get (eR.get qY) Z;have Ap:=m6.get (eR.get r6) Z;have q2:=dm.rd;unfold iD at q2;obtain⟨dd,dG,eM⟩:=dm.one;have FY:=J.aX Ao;have yB:=J.aX Ap
  have oJ:=J.aX q2;have ni:aR H fW:=⟨by have:=bK.1;omega,λl az=>by
   have am:=bK.1;rw[m6.2 l (by simp only[J.b2];omega) Z,eR.2 l Z];exact bK.2 l az⟩
  rw[zO];refine a6 (yF dm) ?_;rintro _ fX ⟨rfl,rfl⟩;refine⟨bN _,?_⟩;unfold xB;by_cases aY:s'.aC=0
  ·have mu:(s'.aC != 0)=false:=by simpa using aY
   simp-implicitDefEqProofs(disch:=try exact af) only[reduceAdd,reduceLeDiff,reduceIte,aw,mu,q2,Ao,Ap,dd,dG,eM];rw[if_pos aY];have iW: ∀ok:Nat->Prop,(∀k,ok k->ct.next<k)->eb fX ok ((fX.set H.next (.row false 3 [[b9,b8,b_]])).set (H.next+1) (.row false 2 [[.int .i64 0,.int .i64 0]])) (bI H.next):=λok ah k b bt g=>by
    have:=ah k bt;have am:=bK.1;exact⟨by unfold bI;omega,by rw[J.get_set_other Z,J.get_set_other Z];exact g⟩
   exact a_.2 ⟨b9,b8,b_,rfl,(df.aN).bo (iW cG λk ah=>(bM k ah).1),(cU.aN).bo (iW dh λk ah=>(c2 k ah).1),(b3.aN).bo (iW dL c3),(ni.db (bN _) _).db Z _⟩
  ·have mu:(s'.aC != 0)=true:=by simpa using aY
   simp-implicitDefEqProofs(disch:=try exact af) only[reduceAdd,reduceLeDiff,reduceIte,aw,mu,q2,Ao,Ap,HM];rw[if_neg aY];exact a_.2 ⟨.ap,.ap,.ap,rfl,eJ.nil,eJ.nil,eJ.nil,(ni.db (bN _) _).db Z _⟩
 ·have z0:(aC != 0)=true:=by simpa using al
  have aoQ:=J.aX qY;have aoR:=J.aX r6;rw[if_neg al];have FY:=J.aX e7;have yB:=J.aX gG;have NB:=en.trans bB;simp-implicitDefEqProofs(disch:=try exact af) only[reduceAdd,reduceLeDiff,reduceIte,aw,J.io,z0,e7,gG,HM];refine a_.2 ⟨.ap,.ap,.ap,rfl,eJ.nil,eJ.nil,eJ.nil,?_⟩
  repeat (first|exact NB|refine aR.bX ?_ _|refine aR.db ?_ Z _)
end
end
section
set_option maxRecDepth 100000
noncomputable section
def yp(G:av)(Y ai:I)(H:J):O:=
 dv H (eK (H).next Y) λan U=>
 dv U (eK (U).next ai) λay aa=>
 ab (aE P 98 an 0) λbb=>
 ab (aj P aa 3 bb) λbu=>
 ab (aE P 98 ay 0) λbx=>
 ab (aj P aa 3 bx) λbS=>
 ab (aW P .eql 3 false bu bS) λbE=>
 aD bE true aa (bh (aE P 98 an 1)) λb1 ae=>
 aD bE true ae (qr (aj P ae 9 b1)) λcb am=>
 aD bE true am (bh (aE P 98 ay 1)) λb6 aB=>
 aD bE true aB (qr (aj P aB 9 b6)) λbT aG=>
 aD bE true aG (bh (aW P .eql 9 false cb bT)) λbW aP=>
 ab (cX bE (some bW) (some (.bool false))) λbG=>
 aD bG true aP (bh (aE P 98 an 2)) λcK bq=>
 aD bG true bq (qr (aj P bq 43 cK)) λcM bJ=>
 aD bG true bJ (bh (aE P 98 ay 2)) λcA co=>
 aD bG true co (qr (aj P co 43 cA)) λcx ds=>
 aD bG true ds (bh (aW P .eql 43 false cM cx)) λcz dV=>
 ab (cX bG (some cz) (some (.bool false))) λcH=>
 aD cH true dV (bh (aE P 98 an 7)) λdn eN=>
 aD cH true eN (qr (aj P eN 3 dn)) λdt fI=>
 aD cH true fI (bh (aE P 98 ay 7)) λdc f0=>
 aD cH true f0 (qr (aj P f0 3 dc)) λdT hk=>
 aD cH true hk (bh (aW P .eql 3 false dt dT)) λdJ iv=>
 ab (cX cH (some dJ) (some (.bool false))) λcF=>
 aD cF true iv (bh (aE P 98 an 3)) λdy hZ=>
 aD cF true hZ (qr (aj P hZ 96 dy)) λei mv=>
 aD cF true mv (bh (aE P 98 ay 3)) λfh jq=>
 aD cF true jq (qr (aj P jq 96 fh)) λej ja=>
 aD cF true ja (λq=>fk ja (G 86 [ei,ej] ja) q) λdW oB=>
 ab (cX cF (some dW) (some (.bool false))) λef=>
 aD ef true oB (bh (aE P 98 an 4)) λfv jI=>
 aD ef true jI (qr (aj P jI 44 fv)) λfi o8=>
 aD ef true o8 (bh (aE P 98 ay 4)) λfU lX=>
 aD ef true lX (qr (aj P lX 44 fU)) λgb mT=>
 aD ef true mT (λq=>fk mT (G 34 [fi,gb] mT) q) λgM p7=>
 ab (cX ef (some gM) (some (.bool false))) λe4=>
 aD e4 true p7 (bh (aE P 98 an 5)) λgB lY=>
 aD e4 true lY (qr (aj P lY 44 gB)) λhB v_=>
 aD e4 true v_ (bh (aE P 98 ay 5)) λjy p8=>
 aD e4 true p8 (qr (aj P p8 44 jy)) λh6 mU=>
 aD e4 true mU (λq=>fk mU (G 34 [hB,h6] mU) q) λix s4=>
 ab (cX e4 (some ix) (some (.bool false))) λhQ=>
 some (hQ,s4)
theorem ajr(G:av)(N:Nat)(Y:I)(ai:I)(H:J):bn Tryz.f62 G N (cB [Y,ai]) H=yp G Y ai H:=by
 refine cL (A:=bn Tryz.f62 G N) (aL _) ?_;delta yp;kernel_rfl
theorem alv(N:Nat){Y ai:I}{H:J}{r:I×J}(h:yp (aq P ao) Y ai H=some r):aq P ao 62 [Y,ai] H=some r:=
 cQ ad Tryz.func62 ad ad ad ((ajr (aq P ao) N Y ai H).trans h)
def tU(G:av)(N:Nat)(H:J):O:=
 some ((.bool true),H)
theorem adQ(G:av)(N:Nat): ∀R H,cw P G N (Code.snd (Code.snd (Code.snd (c6 Tryz.f34)))) (bY Tryz.f34) [] (bY Tryz.f34) R H=tU G N H:=by
 refine dj (aL _) λR H=> ?_
 delta tU;kernel_rfl
def zr(G:av)(N:Nat)(bD:I->I->I->J->O)(Y ai bb:I)(H:J):O:=
 bg P .len [44] [Y] H λb6=>
 ab (aW P .lss 3 false bb b6) λbT=>
 bO (some bT) (ab (dS P 44 Y bb) λcM=>
 ab (aj P H 98 cM) λcA=>
 ab (dS P 44 ai bb) λcH=>
 ab (aj P H 98 cH) λc1=>
 aO H (G 62 [cA,c1] H) λdn U=>
 ab (eY .not dn) λdt=>
 bO (some dt) (some ((.bool false),U)) (ab (aW P .add 3 true bb (.int .i64 1)) λbG=>
 bD Y ai bG U)) (tU G N H)
def vo(G:av)(N:Nat):Nat->I->I->I->J->O
 |0,_,_,_,_=>none
 |n+1,Y,ai,bb,H=>zr G N (vo G N n) Y ai bb H
theorem adP(G:av)(N:Nat)(bD:I->I->I->J->O): ∀R H,cw P G N (Code.fst (Code.fst (Code.snd (Code.fst (Code.snd (Code.snd (c6 Tryz.f34))))))) (λR H=>bD (R 0) (R 1) (R 5) H) [(0,(λR H=>tU G N H))] (bY Tryz.f34) R H=zr G N bD (R 0) (R 1) (R 5) H:=by
 refine dj (aL _) λR H=> ?_
 delta zr;generalize tU G N=a1;revert a1;refine id ?_;intro a1;kernel_rfl
def yl(G:av)(N:Nat)(Y ai:I)(H:J):O:=
 bg P .len [44] [Y] H λbx=>
 bg P .len [44] [ai] H λbE=>
 ab (aW P .neq 3 false bx bE) λcq=>
 bO (some cq) (some ((.bool false),H)) (vo G N N Y ai (.int .i64 0) H)
theorem ai3(G:av)(N:Nat)(Y:I)(ai:I)(H:J):bn Tryz.f34 G N (cB [Y,ai]) H=yl G N Y ai H:=by
 refine cL (A:=bn Tryz.f34 G N) ((bk ad ((bk ad ((bk ad (adQ G N) ((bk ad ((fy ad ((gg (k:=λm R H=>vo G N m (R 0) (R 1) (R 5) H) ad (λR H=>ad) (λm=>adP G N (vo G N m)))))) (aL _))))) (aL _))) (aL _))) ?_;delta yl;generalize vo G N N=a1;revert a1;refine id ?_;intro a1;kernel_rfl
theorem ak6(N:Nat){Y ai:I}{H:J}{r:I×J}(h:yl (aq P ao) N Y ai H=some r):aq P ao 34 [Y,ai] H=some r:=
 cQ ad Tryz.func34 ad ad ad ((ai3 (aq P ao) N Y ai H).trans h)
end
end
section
mutual
def uo:cE->cE->Bool
 | .mk a es b c,.mk eg es' fq c'=>a.kind==eg.kind&&(a.name==eg.name&&((a.eV==eg.eV&&a.fT==eg.fT)&&(a.ref==eg.ref&&(i7 es es'&&(ir b fq&&ir c c')))))
def ir:List cE->List cE->Bool
 |[],[]=>true
 |[],_::_=>false
 |_::_,[]=>false
 |e::es,f::eD=>uo e f&&ir es eD
end
mutual
def kn(B:Nat):cE->Prop
 | .mk _ es b c=>(es.length<=B/\gy B es)/\(b.length<=B/\ha B b)/\(c.length<=B/\ha B c)
def ha(B:Nat):List cE->Prop
 |[]=>True
 |e::es=>kn B e/\ha B es
end
theorem ha.mem{B:Nat}: ∀{es:List cE},ha B es-> ∀e∈es,kn B e
 |[],_,e,he=>by simp at he
 |x::xs,h,e,he=>by
  rw[ha] at h;rcases List.mem_cons.1 he with rfl|he
  ·exact h.1
  ·exact ha.mem h.2 e he
theorem Jt: ∀(es eD:List cE),es.length≠eD.length->ir es eD=false
 |[],[],h=>absurd rfl h
 |[],_::_,_=>by rw[ir]
 |_::_,[],_=>by rw[ir]
 |e::es,f::eD,h=>by rw[ir,Jt es eD (by simpa using h),Bool.and_false]
mutual
theorem aa1: ∀e:bp,um e e=true
 | .mk a bQ=>by rw[um,JS bQ];simp
theorem JS: ∀es:List bp,i7 es es=true
 |[]=>by rw[i7]
 |e::es=>by rw[i7,aa1 e,JS es];rfl
end
mutual
theorem acE: ∀e:cE,uo e e=true
 | .mk a es b c=>by rw[uo,Ga b,Ga c,JS es];simp
theorem Ga: ∀es:List cE,ir es es=true
 |[]=>by rw[ir]
 |e::es=>by rw[ir,acE e,Ga es];rfl
end
theorem cE.Pr{a:dH}{es:List bp}{b c:List cE}{e:cE}(h:e∈b):SizeOf.sizeOf e<SizeOf.sizeOf (cE.mk a es b c):=by
 have:=List.sizeOf_lt_of_mem h;simp only[cE.mk.sizeOf_spec];omega
theorem cE.P9{a:dH}{es:List bp}{b c:List cE}{e:cE}(h:e∈c):SizeOf.sizeOf e<SizeOf.sizeOf (cE.mk a es b c):=by
 have:=List.sizeOf_lt_of_mem h;simp only[cE.mk.sizeOf_spec];omega
theorem ez.aK{H H':J}{ok:Nat->Prop}{bQ:List cE}{kv:I}(h:ez H ok bQ kv)(p:aR H H'):ez H' ok bQ kv:=h.bo (fG.aK p λ_ h=>h)
theorem h9.aK{H H':J}{ok:Nat->Prop}{e:cE}{v:I}(h:h9 H ok e v)(p:aR H H'):h9 H' ok e v:=h9.bo (fG.aK p λ_ h=>h) e v h
theorem gE.cons{H:J}{ok:Nat->Prop}{e:cE}{es:List cE}{els:List (List I)}{k:Nat}(h:gE H ok (e::es) (els.drop k)): ∃cs,els[k]? =some cs/\h9 H ok e (.agg cs)/\gE H ok es (els.drop (k+1)):=by
 cases bd:els.drop k with
 |nil=>rw[bd,gE] at h;exact h.elim
 |cons cs qV=>
  rw[bd,gE] at h;have U:els[k]? =some cs:=by
   have:=List.getElem?_drop (xs:=els) (i:=k) (j:=0);rw[bd] at this;simpa using this.symm
  have aa:els.drop (k+1)=qV:=by
   have:(els.drop k).drop 1=qV:=by rw[bd];rfl
   rwa[List.drop_drop] at this
  exact⟨cs,U,h.1,by rw[aa];exact h.2⟩
theorem ez.uz{H:J}{ok:Nat->Prop}{bQ:List cE}{x:I}(ag:ez H ok bQ x)(H':J):dF P H' .len [44] [x]=some (.int .i64 bQ.length):=by
 rcases ag with⟨rfl,aI⟩|⟨eG,i1,bM,gm,o7,rfl,_⟩|⟨eG,i1,bM,rfl,aI⟩
 ·rw[aI];exact LS
 ·exact HJ
 ·rw[aI];exact HJ
theorem ez.row{H:J}{ok:Nat->Prop}{bQ:List cE}{x:I}(ag:ez H ok bQ x)(h: ¬bQ.length=0): ∃l i cap ro els,x= .aN l i bQ.length 9 (Option.map (· +bQ.length) cap)/\ok l/\H.get l=some (.row ro 9 els)/\gE H ok bQ (els.drop i):=by
 rcases ag with⟨_,aI⟩|U|⟨_,_,_,_,aI⟩
 ·exact absurd aI h
 ·exact U
 ·exact absurd aI h
def tC(F:Nat)(B:Nat)(e:cE):Prop:=kn B e-> ∀(f:cE) (v w:I) (H:J) (ok ok':Nat->Prop),h9 H ok e v->h9 H ok' f w->W (aq P ao F [v,w] H) λr H'=>r= .bool (uo e f)/\aR H H'
theorem W_(m k:Nat)(h:m≠k):((m:Int) != (k:Int))=true:=by simp;omega
theorem Xa(m:Nat):((m:Int) != (m:Int))=false:=by simp
theorem aha{H:J}{a eg:dH}{es es':List bp}{b fq c c':List cE}{ev lk bv jp fw lj:I}(U:ev.one=true)(ft:lk.one=true)(aa:bv.one=true)(hq:jp.one=true)(ae:fw.one=true)(h_:lj.one=true)
  (he: ∀H',aR H H'->W (aq P ao 86 [ev,lk] H') λr nF=>r= .bool (i7 es es')/\aR H' nF)
  (ax: ∀H',aR H H'->W (aq P ao 34 [bv,jp] H') λr nF=>r= .bool (ir b fq)/\aR H' nF)
  (aS: ∀H',aR H H'->W (aq P ao 34 [fw,lj] H') λr nF=>r= .bool (ir c c')/\aR H' nF):
  W (aq P ao 62 [.agg (a.cells ev bv fw),.agg (eg.cells lk jp lj)] H) λr H'=>r= .bool (uo (.mk a es b c) (.mk eg es' fq c'))/\aR H H':=by
 refine cP (λ_=>alv 0) ?_;have dQ: ∀l,eK l (.agg (a.cells ev bv fw))=some (.ptr l 0 0,.row false 9 [a.cells ev bv fw]):=λl=>h8 l _ (by simp only[dH.cells,List.all_cons,List.all_nil,iF,jO,U,aa,ae,Bool.and_self])
 have ck: ∀l,eK l (.agg (eg.cells lk jp lj))=some (.ptr l 0 0,.row false 9 [eg.cells lk jp lj]):=λl=>h8 l _ (by simp only[dH.cells,List.all_cons,List.all_nil,iF,jO,ft,hq,h_,Bool.and_self])
 have aJ:=(aR.push H (.row false 9 [a.cells ev bv fw])).bX (.row false 9 [eg.cells lk jp lj]);have g1:((H.push (.row false 9 [a.cells ev bv fw])).push (.row false 9 [eg.cells lk jp lj])).get H.next=some (.row false 9 [a.cells ev bv fw]):=by simp-implicitDefEqProofs(disch:=try exact af) only[dB]
 have g2:((H.push (.row false 9 [a.cells ev bv fw])).push (.row false 9 [eg.cells lk jp lj])).get (H.next+1)=some (.row false 9 [eg.cells lk jp lj]):=by simp-implicitDefEqProofs(disch:=try exact af) only[dB]
 rw[uo];simp only[dH.cells] at dQ ck aJ g1 g2 ⊢;cases c0:a.kind==eg.kind with
 |false=>
  simp-implicitDefEqProofs(disch:=try exact af) only[yp,reduceAdd,reduceLeDiff,reduceIte,aw,d_,dQ,ck,jn,c0];exact a_.2 ⟨by simp only[Bool.false_and,Bool.and_false],aJ⟩
 |true=>
 cases c2:a.name==eg.name with
 |false=>
  simp-implicitDefEqProofs(disch:=try exact af) only[yp,reduceAdd,reduceLeDiff,reduceIte,aw,d_,dQ,ck,jn,c0,c2];exact a_.2 ⟨by simp only[Bool.false_and,Bool.and_false],aJ⟩
 |true=>
 cases c3:(a.eV==eg.eV&&a.fT==eg.fT) with
 |false=>
  simp-implicitDefEqProofs(disch:=try exact af) only[yp,reduceAdd,reduceLeDiff,reduceIte,aw,d_,dQ,ck,jn,c0,c2,c3];exact a_.2 ⟨by simp only[Bool.false_and,Bool.and_false],aJ⟩
 |true=>
 cases c5:a.ref==eg.ref with
 |false=>
  simp-implicitDefEqProofs(disch:=try exact af) only[yp,reduceAdd,reduceLeDiff,reduceIte,aw,d_,dQ,ck,jn,c0,c2,c3,c5];exact a_.2 ⟨by simp only[Bool.false_and,Bool.and_false],aJ⟩
 |true=>
 simp-implicitDefEqProofs(disch:=try exact af) only[yp,reduceAdd,reduceLeDiff,reduceIte,aw,d_,dQ,ck,jn,c0,c2,c3,c5];refine gP (he _ aJ) ?_;rintro _ cT ⟨rfl,bB⟩;refine⟨bB.1,?_⟩;have E1:=bB.get g1;have E2:=bB.get g2;cases d1:i7 es es' with
 |false=>
  simp-implicitDefEqProofs(disch:=try exact af) only[reduceAdd,reduceLeDiff,reduceIte,aw];exact a_.2 ⟨by simp only[Bool.false_and,Bool.and_false],aJ.trans bB⟩
 |true=>
 simp-implicitDefEqProofs(disch:=try exact af) only[reduceAdd,reduceLeDiff,reduceIte,aw,d_,E1,E2];refine gP (ax _ (aJ.trans bB)) ?_;rintro _ ct ⟨rfl,bK⟩;refine⟨bK.1,?_⟩;have MM:=bK.get E1;have MN:=bK.get E2;cases d2:ir b fq with
 |false=>
  simp-implicitDefEqProofs(disch:=try exact af) only[reduceAdd,reduceLeDiff,reduceIte,aw];exact a_.2 ⟨by simp only[Bool.false_and,Bool.and_false],(aJ.trans bB).trans bK⟩
 |true=>
 simp-implicitDefEqProofs(disch:=try exact af) only[reduceAdd,reduceLeDiff,reduceIte,aw,d_,MM,MN];refine gP (aS _ ((aJ.trans bB).trans bK)) ?_;rintro _ dp ⟨rfl,c8⟩;refine⟨c8.1,?_⟩;simp-implicitDefEqProofs(disch:=try exact af) only[reduceAdd,reduceLeDiff,reduceIte,aw];exact a_.2 ⟨by simp only[Bool.true_and],((aJ.trans bB).trans bK).trans c8⟩
theorem Vd{N B:Nat}{f7 g7 gW li:Nat}{kc lc:Option Nat}{ju jv:Bool}{hc hd:List (List I)}{ok ok':Nat->Prop}: ∀(es eD:List cE) (j dA n:Nat) (H:J),(∀e∈es,tC 62 B e)->ha B es->gE H ok es (hc.drop (g7+j))->gE H ok' eD (hd.drop (li+j))->es.length=eD.length->dA=j+es.length->dA<=1000000000000->H.get f7=some (.row ju 9 hc)->H.get gW=some (.row jv 9 hd)->es.length<n->
  W (vo (aq P ao) N n (.aN f7 g7 dA 9 kc) (.aN gW li dA 9 lc) (.int .i64 j) H) λr H'=>r= .bool (ir es eD)/\aR H H'
 |_,_,_,_,0,_,_,_,_,_,_,_,_,_,_,aU=>Z
 |[],[],j,dA,n+1,H,aM,eu,U,aa,ae,am,aB,aG,aP,aU=>by
  have bH: ¬((j:Int)<(dA:Int)):=by simp at am;omega
  simp-implicitDefEqProofs(disch:=try exact af) only[vo,tU,zr,yl,reduceAdd,reduceLeDiff,reduceIte,aw,bH,decide_false];exact a_.2 ⟨by rw[ir],.refl _⟩
 |[],_::_,j,dA,n+1,H,aM,eu,U,aa,ae,am,aB,aG,aP,aU=>by simp at ae
 |_::_,[],j,dA,n+1,H,aM,eu,U,aa,ae,am,aB,aG,aP,aU=>by simp at ae
 |e::es,f::eD,j,dA,n+1,H,aM,eu,U,aa,ae,am,aB,aG,aP,aU=>by
  simp only[List.length_cons] at ae am aU;have bH:(j:Int)<(dA:Int):=Z;have aY:(0:Int)<=(j:Int):=Z;have bz:((j:Int)).toNat=j:=Z;obtain⟨cs,g1,g2,g3⟩:=U.cons;obtain⟨bU,g4,g5,g6⟩:=aa.cons;obtain⟨_,cD,cu,eH⟩:=g2.cells;cases cD;obtain⟨_,eE,eR,gI⟩:=g5.cells;cases eE;have q6:List.take 9 cs=cs:=List.take_of_length_le Z;have q7:List.take 9 bU=bU:=List.take_of_length_le Z;have eG:=J.aX aG;have fA:=J.aX aP;rw[ha] at eu;have hw:IntKind.i64.wrap ((j:Int)+1)=((j+1:Nat):Int):=by rw[wrap_i64 Z Z];omega
  simp-implicitDefEqProofs(disch:=try exact af) only[vo,tU,zr,yl,reduceAdd,reduceLeDiff,reduceIte,aw,d_,bH,decide_true,bz,aG,aP,g1,g4,q6,q7];refine a6 (aM e (by simp) eu.1 f _ _ _ ok ok' g2 g5) ?_;rintro _ bm ⟨rfl,aJ⟩;refine⟨aJ.1,?_⟩;cases aS:uo e f with
  |false=>
   simp-implicitDefEqProofs(disch:=try exact af) only[bg,bL,Bool.not_false];exact a_.2 ⟨by rw[ir,aS,Bool.false_and],aJ⟩
  |true=>
   simp-implicitDefEqProofs(disch:=try exact af) only[bg,bL,ee,Bool.not_true,hw];refine(Vd es eD (j+1) dA n bm (λcN l0=>aM cN (by simp[l0])) eu.2 (gE.bo (fG.aK (aJ) λ_ h=>h) _ _ g3) (gE.bo (fG.aK (aJ) λ_ h=>h) _ _ g6) Z Z aB ((aJ).get aG) ((aJ).get aP) Z).mono ?_;rintro v H' ⟨rfl,q⟩;exact⟨by rw[ir,aS,Bool.true_and],(aJ).trans q⟩
theorem Ll{B:Nat}(ig:B<=1000000000000){H:J}{ok ok':Nat->Prop}{bQ ls:List cE}{bv jp:I}(aM: ∀e∈bQ,tC 62 B e)(eu:bQ.length<=B/\ha B bQ)(U:ez H ok bQ bv)(aa:ez H ok' ls jp):W (aq P ao 34 [bv,jp] H) λr H'=>r= .bool (ir bQ ls)/\aR H H':=by
 refine cP (λ_=>ak6 (bQ.length+1)) ?_;have z0:((0:Nat):Int)=0:=rfl;have bM:=U.uz;have c2:=aa.uz;by_cases aU:bQ.length=ls.length
 ·by_cases cn:bQ.length=0
  ·have lq:ls.length=0:=Z;obtain rfl:=List.length_eq_zero_iff.1 cn;obtain rfl:=List.length_eq_zero_iff.1 lq;simp-implicitDefEqProofs(disch:=try exact af) only[vo,tU,zr,yl,reduceAdd,reduceLeDiff,reduceIte,aw,bM,c2,List.length_nil,z0,bne_self_eq_false,Int.lt_irrefl,decide_false];exact a_.2 ⟨by rw[ir],.refl _⟩
  ·obtain⟨eG,i1,cG,gm,o7,rfl,cR,g1,eo⟩:=U.row cn;obtain⟨fA,i2,dh,e0,qW,rfl,dd,g2,eX⟩:=aa.row Z;rw[<-aU];simp-implicitDefEqProofs(disch:=try exact af) only[tU,yl,bg,bg,bL,fH,ee,Xa bQ.length];exact Vd bQ ls 0 bQ.length (bQ.length+1) H aM eu.2 eo eX aU Z Z g1 g2 Z
 ·have hz:=W_ _ _ aU;simp-implicitDefEqProofs(disch:=try exact af) only[tU,zr,yl,bg,bg,bL,ee,bM,c2,hz];exact a_.2 ⟨by rw[Jt _ _ aU],.refl _⟩
theorem K0{B:Nat}(ig:B<=1000000000000): ∀(e:cE),tC 62 B e
 | .mk a es b c=>by
  intro eu f v w H ok ok' U aa;cases f with|mk eg es' fq c'=>
  rw[rz] at U aa;obtain⟨ev,bv,fw,rfl,aI,bc,dq⟩:=U;obtain⟨lk,jp,lj,rfl,f1,f2,f3⟩:=aa;rw[kn] at eu;have Ay: ∀e∈b,tC 62 B e:=λe he=>K0 ig e
  have Fh: ∀e∈c,tC 62 B e:=λe he=>K0 ig e
  exact aha aI.gi f1.gi bc.gi f2.gi dq.gi f3.gi (λH' p=>U4 ig (λe _=>Vt ig e) eu.1 (aI.aK p) (f1.aK p))
   (λH' p=>Ll ig Ay eu.2.1 (bc.aK p) (f2.aK p)) (λH' p=>Ll ig Fh eu.2.2 (dq.aK p) (f3.aK p))
 termination_by e=>SizeOf.sizeOf e
 decreasing_by
  ·exact cE.Pr he
  ·exact cE.P9 he
end
section
set_option maxRecDepth 100000
noncomputable section
def yr(G:av)(Y ai:I)(H:J):O:=
 dv H (eK (H).next Y) λan U=>
 dv U (eK (U).next ai) λay aa=>
 ab (aE P 98 an 0) λbb=>
 ab (aj P aa 3 bb) λbu=>
 ab (aE P 98 ay 0) λbx=>
 ab (aj P aa 3 bx) λbS=>
 ab (aW P .eql 3 false bu bS) λbE=>
 aD bE true aa (bh (aE P 98 an 1)) λb1 ae=>
 aD bE true ae (qr (aj P ae 9 b1)) λcb am=>
 aD bE true am (bh (aE P 98 ay 1)) λb6 aB=>
 aD bE true aB (qr (aj P aB 9 b6)) λbT aG=>
 aD bE true aG (bh (aW P .eql 9 false cb bT)) λbW aP=>
 ab (cX bE (some bW) (some (.bool false))) λbG=>
 aD bG true aP (bh (aE P 98 an 2)) λcK bq=>
 aD bG true bq (qr (aj P bq 43 cK)) λcM bJ=>
 aD bG true bJ (bh (aE P 98 ay 2)) λcA co=>
 aD bG true co (qr (aj P co 43 cA)) λcx ds=>
 aD bG true ds (bh (aW P .eql 43 false cM cx)) λcz dV=>
 ab (cX bG (some cz) (some (.bool false))) λcH=>
 aD cH true dV (bh (aE P 98 an 7)) λdn eN=>
 aD cH true eN (qr (aj P eN 3 dn)) λdt fI=>
 aD cH true fI (bh (aE P 98 ay 7)) λdc f0=>
 aD cH true f0 (qr (aj P f0 3 dc)) λdT hk=>
 aD cH true hk (bh (aW P .eql 3 false dt dT)) λdJ iv=>
 ab (cX cH (some dJ) (some (.bool false))) λcF=>
 aD cF true iv (bh (aE P 98 an 3)) λdy hZ=>
 aD cF true hZ (qr (aj P hZ 96 dy)) λei mv=>
 aD cF true mv (bh (aE P 98 ay 3)) λfh jq=>
 aD cF true jq (qr (aj P jq 96 fh)) λej ja=>
 aD cF true ja (λq=>fk ja (G 91 [ei,ej,(.func (.func 92) [] [])] ja) q) λdW oB=>
 ab (cX cF (some dW) (some (.bool false))) λef=>
 aD ef true oB (bh (aE P 98 an 4)) λfv jI=>
 aD ef true jI (qr (aj P jI 44 fv)) λfi o8=>
 aD ef true o8 (bh (aE P 98 ay 4)) λfU lX=>
 aD ef true lX (qr (aj P lX 44 fU)) λgb mT=>
 aD ef true mT (λq=>fk mT (G 64 [fi,gb,(.func (.func 65) [] [])] mT) q) λgM p7=>
 ab (cX ef (some gM) (some (.bool false))) λe4=>
 aD e4 true p7 (bh (aE P 98 an 5)) λgB lY=>
 aD e4 true lY (qr (aj P lY 44 gB)) λhB v_=>
 aD e4 true v_ (bh (aE P 98 ay 5)) λjy p8=>
 aD e4 true p8 (qr (aj P p8 44 jy)) λh6 mU=>
 aD e4 true mU (λq=>fk mU (G 64 [hB,h6,(.func (.func 65) [] [])] mU) q) λix s4=>
 ab (cX e4 (some ix) (some (.bool false))) λhQ=>
 some (hQ,s4)
theorem ajt(G:av)(N:Nat)(Y:I)(ai:I)(H:J):bn Tryz.f65 G N (cB [Y,ai]) H=yr G Y ai H:=by
 refine cL (A:=bn Tryz.f65 G N) (aL _) ?_;delta yr;kernel_rfl
theorem alx(N:Nat){Y ai:I}{H:J}{r:I×J}(h:yr (aq P ao) Y ai H=some r):aq P ao 65 [Y,ai] H=some r:=
 cQ ad Tryz.func65 ad ad ad ((ajt (aq P ao) N Y ai H).trans h)
def tY(G:av)(N:Nat)(H:J):O:=
 some ((.bool true),H)
theorem aeg(G:av)(N:Nat): ∀R H,cw P G N (Code.snd (Code.snd (Code.snd (c6 Tryz.f64)))) (bY Tryz.f64) [] (bY Tryz.f64) R H=tY G N H:=by
 refine dj (aL _) λR H=> ?_
 delta tY;kernel_rfl
def zA(G:av)(N:Nat)(bD:I->I->I->I->I->J->O)(ai an:I)(bW bG cc:I)(H:J):O:=
 ab (aW P .lss 3 false cc bG) λcK=>
 bO (some cK) (ab (dS P 44 bW cc) λcA=>
 ab (aj P H 98 cA) λcx=>
 cy H [(.int .i64 0),(.str []),(.str []),(.int .i64 0),I.ap,I.ap,I.ap,(.int .i64 0),(.int .i64 0)] λbS U=>
 a7 U (aQ P U 98 bS cx) λaa=>
 ab (dS P 44 ai cc) λc1=>
 ab (aj P aa 98 c1) λdn=>
 cy aa [(.int .i64 0),(.str []),(.str []),(.int .i64 0),I.ap,I.ap,I.ap,(.int .i64 0),(.int .i64 0)] λbE ae=>
 a7 ae (aQ P ae 98 bE dn) λam=>
 ab (aj P am 98 bS) λdc=>
 ab (aj P am 98 bE) λdT=>
 qJ G am an [dc,dT] λdJ aB=>
 ab (eY .not dJ) λcF=>
 bO (some cF) (some ((.bool false),aB)) (ab (aW P .add 3 true cc (.int .i64 1)) λeC=>
 bD ai an bW bG eC aB)) (tY G N H)
def vv(G:av)(N:Nat):Nat->I->I->I->I->I->J->O
 |0,_,_,_,_,_,_=>none
 |n+1,ai,an,bW,bG,cc,H=>zA G N (vv G N n) ai an bW bG cc H
theorem aef(G:av)(N:Nat)(bD:I->I->I->I->I->J->O): ∀R H,cw P G N (Code.fst (Code.fst (Code.snd (Code.fst (Code.snd (Code.snd (c6 Tryz.f64))))))) (λR H=>bD (R 1) (R 2) (R 15) (R 16) (R 17) H) [(0,(λR H=>tY G N H))] (bY Tryz.f64) R H=zA G N bD (R 1) (R 2) (R 15) (R 16) (R 17) H:=by
 refine dj (aL _) λR H=> ?_
 delta zA;generalize tY G N=a1;revert a1;refine id ?_;intro a1;kernel_rfl
def yq(G:av)(N:Nat)(Y ai an:I)(H:J):O:=
 bg P .len [44] [Y] H λb1=>
 bg P .len [44] [ai] H λb6=>
 ab (aW P .neq 3 false b1 b6) λbT=>
 bO (some bT) (some ((.bool false),H)) (bg P .len [44] [Y] H λbG=>
 vv G N N ai an Y bG (.int .i64 0) H)
theorem ajs(G:av)(N:Nat)(Y:I)(ai:I)(an:I)(H:J):bn Tryz.f64 G N (cB [Y,ai,an]) H=yq G N Y ai an H:=by
 refine cL (A:=bn Tryz.f64 G N) ((bk ad ((bk ad ((bk ad (aeg G N) ((bk ad ((fy ad ((gg (k:=λm R H=>vv G N m (R 1) (R 2) (R 15) (R 16) (R 17) H) ad (λR H=>ad) (λm=>aef G N (vv G N m)))))) (aL _))))) (aL _))) (aL _))) ?_;delta yq;generalize vv G N N=a1;revert a1;refine id ?_;intro a1;kernel_rfl
theorem alw(N:Nat){Y ai an:I}{H:J}{r:I×J}(h:yq (aq P ao) N Y ai an H=some r):aq P ao 64 [Y,ai,an] H=some r:=
 cQ ad Tryz.func64 ad ad ad ((ajs (aq P ao) N Y ai an H).trans h)
end
end
section
theorem ag_{H:J}{a eg:dH}{es es':List bp}{b fq c c':List cE}{ev lk bv jp fw lj:I}(U:ev.one=true)(ft:lk.one=true)(aa:bv.one=true)(hq:jp.one=true)(ae:fw.one=true)(h_:lj.one=true)
  (he: ∀H',aR H H'->W (aq P ao 91 [ev,lk,.func (.func 92) [] []] H') λr nF=>r= .bool (i7 es es')/\aR H' nF)
  (ax: ∀H',aR H H'->W (aq P ao 64 [bv,jp,.func (.func 65) [] []] H') λr nF=>r= .bool (ir b fq)/\aR H' nF)
  (aS: ∀H',aR H H'->W (aq P ao 64 [fw,lj,.func (.func 65) [] []] H') λr nF=>r= .bool (ir c c')/\aR H' nF):
  W (aq P ao 65 [.agg (a.cells ev bv fw),.agg (eg.cells lk jp lj)] H) λr H'=>r= .bool (uo (.mk a es b c) (.mk eg es' fq c'))/\aR H H':=by
 refine cP (λ_=>alx 0) ?_;have dQ: ∀l,eK l (.agg (a.cells ev bv fw))=some (.ptr l 0 0,.row false 9 [a.cells ev bv fw]):=λl=>h8 l _ (by simp only[dH.cells,List.all_cons,List.all_nil,iF,jO,U,aa,ae,Bool.and_self])
 have ck: ∀l,eK l (.agg (eg.cells lk jp lj))=some (.ptr l 0 0,.row false 9 [eg.cells lk jp lj]):=λl=>h8 l _ (by simp only[dH.cells,List.all_cons,List.all_nil,iF,jO,ft,hq,h_,Bool.and_self])
 have aJ:=(aR.push H (.row false 9 [a.cells ev bv fw])).bX (.row false 9 [eg.cells lk jp lj]);have g1:((H.push (.row false 9 [a.cells ev bv fw])).push (.row false 9 [eg.cells lk jp lj])).get H.next=some (.row false 9 [a.cells ev bv fw]):=by simp-implicitDefEqProofs(disch:=try exact af) only[dB]
 have g2:((H.push (.row false 9 [a.cells ev bv fw])).push (.row false 9 [eg.cells lk jp lj])).get (H.next+1)=some (.row false 9 [eg.cells lk jp lj]):=by simp-implicitDefEqProofs(disch:=try exact af) only[dB]
 rw[uo];simp only[dH.cells] at dQ ck aJ g1 g2 ⊢;cases c0:a.kind==eg.kind with
 |false=>
  simp-implicitDefEqProofs(disch:=try exact af) only[yr,reduceAdd,reduceLeDiff,reduceIte,aw,d_,dQ,ck,jn,c0];exact a_.2 ⟨by simp only[Bool.false_and,Bool.and_false],aJ⟩
 |true=>
 cases c2:a.name==eg.name with
 |false=>
  simp-implicitDefEqProofs(disch:=try exact af) only[yr,reduceAdd,reduceLeDiff,reduceIte,aw,d_,dQ,ck,jn,c0,c2];exact a_.2 ⟨by simp only[Bool.false_and,Bool.and_false],aJ⟩
 |true=>
 cases c3:(a.eV==eg.eV&&a.fT==eg.fT) with
 |false=>
  simp-implicitDefEqProofs(disch:=try exact af) only[yr,reduceAdd,reduceLeDiff,reduceIte,aw,d_,dQ,ck,jn,c0,c2,c3];exact a_.2 ⟨by simp only[Bool.false_and,Bool.and_false],aJ⟩
 |true=>
 cases c5:a.ref==eg.ref with
 |false=>
  simp-implicitDefEqProofs(disch:=try exact af) only[yr,reduceAdd,reduceLeDiff,reduceIte,aw,d_,dQ,ck,jn,c0,c2,c3,c5];exact a_.2 ⟨by simp only[Bool.false_and,Bool.and_false],aJ⟩
 |true=>
 simp-implicitDefEqProofs(disch:=try exact af) only[yr,reduceAdd,reduceLeDiff,reduceIte,aw,d_,dQ,ck,jn,c0,c2,c3,c5];refine gP (he _ aJ) ?_;rintro _ cT ⟨rfl,bB⟩;refine⟨bB.1,?_⟩;have E1:=bB.get g1;have E2:=bB.get g2;cases d1:i7 es es' with
 |false=>
  simp-implicitDefEqProofs(disch:=try exact af) only[reduceAdd,reduceLeDiff,reduceIte,aw];exact a_.2 ⟨by simp only[Bool.false_and,Bool.and_false],aJ.trans bB⟩
 |true=>
 simp-implicitDefEqProofs(disch:=try exact af) only[reduceAdd,reduceLeDiff,reduceIte,aw,d_,E1,E2];refine gP (ax _ (aJ.trans bB)) ?_;rintro _ ct ⟨rfl,bK⟩;refine⟨bK.1,?_⟩;have MM:=bK.get E1;have MN:=bK.get E2;cases d2:ir b fq with
 |false=>
  simp-implicitDefEqProofs(disch:=try exact af) only[reduceAdd,reduceLeDiff,reduceIte,aw];exact a_.2 ⟨by simp only[Bool.false_and,Bool.and_false],(aJ.trans bB).trans bK⟩
 |true=>
 simp-implicitDefEqProofs(disch:=try exact af) only[reduceAdd,reduceLeDiff,reduceIte,aw,d_,MM,MN];refine gP (aS _ ((aJ.trans bB).trans bK)) ?_;rintro _ dp ⟨rfl,c8⟩;refine⟨c8.1,?_⟩;simp-implicitDefEqProofs(disch:=try exact af) only[reduceAdd,reduceLeDiff,reduceIte,aw];exact a_.2 ⟨by simp only[Bool.true_and],((aJ.trans bB).trans bK).trans c8⟩
theorem Vc{N B:Nat}{f7 g7 gW li:Nat}{kc lc:Option Nat}{ju jv:Bool}{hc hd:List (List I)}{ok ok':Nat->Prop}: ∀(es eD:List cE) (j dA n:Nat) (H:J),(∀e∈es,tC 65 B e)->ha B es->gE H ok es (hc.drop (g7+j))->gE H ok' eD (hd.drop (li+j))->es.length=eD.length->dA=j+es.length->dA<=1000000000000->H.get f7=some (.row ju 9 hc)->H.get gW=some (.row jv 9 hd)->es.length<n->
  W (vv (aq P ao) N n (.aN gW li dA 9 lc) (.func (.func 65) [] []) (.aN f7 g7 dA 9 kc) (.int .i64 dA) (.int .i64 j) H) λr H'=>r= .bool (ir es eD)/\aR H H'
 |_,_,_,_,0,_,_,_,_,_,_,_,_,_,_,aU=>Z
 |[],[],j,dA,n+1,H,aM,eu,U,aa,ae,am,aB,aG,aP,aU=>by
  have bH: ¬((j:Int)<(dA:Int)):=by simp at am;omega
  simp-implicitDefEqProofs(disch:=try exact af) only[vv,tY,zA,yq,reduceAdd,reduceLeDiff,reduceIte,aw,bH,decide_false];exact a_.2 ⟨by rw[ir],.refl _⟩
 |[],_::_,j,dA,n+1,H,aM,eu,U,aa,ae,am,aB,aG,aP,aU=>by simp at ae
 |_::_,[],j,dA,n+1,H,aM,eu,U,aa,ae,am,aB,aG,aP,aU=>by simp at ae
 |e::es,f::eD,j,dA,n+1,H,aM,eu,U,aa,ae,am,aB,aG,aP,aU=>by
  simp only[List.length_cons] at ae am aU;have bH:(j:Int)<(dA:Int):=Z;have aY:(0:Int)<=(j:Int):=Z;have bz:((j:Int)).toNat=j:=Z;obtain⟨cs,g1,g2,g3⟩:=U.cons;obtain⟨bU,g4,g5,g6⟩:=aa.cons;obtain⟨_,cD,cu,eH⟩:=g2.cells;cases cD;obtain⟨_,eE,eR,gI⟩:=g5.cells;cases eE;have q6:List.take 9 cs=cs:=List.take_of_length_le Z;have q7:List.take 9 bU=bU:=List.take_of_length_le Z;have eG:=J.aX aG;have fA:=J.aX aP;rw[ha] at eu;have hw:IntKind.i64.wrap ((j:Int)+1)=((j+1:Nat):Int):=by rw[wrap_i64 Z Z];omega
  have hl:=(aR.push H (.row false 9 [cs])).bX (.row false 9 [bU]);simp-implicitDefEqProofs(disch:=try exact af) only[vv,tY,zA,yq,reduceAdd,reduceLeDiff,reduceIte,aw,d_,bH,decide_true,bz,aG,aP,g1,g4,q6,q7,cu,eH,eR,gI,List.append_nil,sx,List.nil_append];refine a6 (aM e (by simp) eu.1 f _ _ _ ok ok' (g2.aK hl) (g5.aK hl)) ?_;rintro _ bm ⟨rfl,aJ⟩;refine⟨aJ.1,?_⟩;cases aS:uo e f with
  |false=>
   simp-implicitDefEqProofs(disch:=try exact af) only[bg,bL,Bool.not_false];exact a_.2 ⟨by rw[ir,aS,Bool.false_and],hl.trans aJ⟩
  |true=>
   simp-implicitDefEqProofs(disch:=try exact af) only[bg,bL,ee,Bool.not_true,hw];refine(Vc es eD (j+1) dA n bm (λcN l0=>aM cN (by simp[l0])) eu.2 (gE.bo (fG.aK (hl.trans aJ) λ_ h=>h) _ _ g3) (gE.bo (fG.aK (hl.trans aJ) λ_ h=>h) _ _ g6) Z Z aB ((hl.trans aJ).get aG) ((hl.trans aJ).get aP) Z).mono ?_;rintro v H' ⟨rfl,q⟩;exact⟨by rw[ir,aS,Bool.true_and],(hl.trans aJ).trans q⟩
theorem Lk{B:Nat}(ig:B<=1000000000000){H:J}{ok ok':Nat->Prop}{bQ ls:List cE}{bv jp:I}(aM: ∀e∈bQ,tC 65 B e)(eu:bQ.length<=B/\ha B bQ)(U:ez H ok bQ bv)(aa:ez H ok' ls jp):W (aq P ao 64 [bv,jp,.func (.func 65) [] []] H) λr H'=>r= .bool (ir bQ ls)/\aR H H':=by
 refine cP (λ_=>alw (bQ.length+1)) ?_;have z0:((0:Nat):Int)=0:=rfl;have bM:=U.uz;have c2:=aa.uz;by_cases aU:bQ.length=ls.length
 ·by_cases cn:bQ.length=0
  ·have lq:ls.length=0:=Z;obtain rfl:=List.length_eq_zero_iff.1 cn;obtain rfl:=List.length_eq_zero_iff.1 lq;simp-implicitDefEqProofs(disch:=try exact af) only[vv,tY,zA,yq,reduceAdd,reduceLeDiff,reduceIte,aw,bM,c2,List.length_nil,z0,bne_self_eq_false,Int.lt_irrefl,decide_false];exact a_.2 ⟨by rw[ir],.refl _⟩
  ·obtain⟨eG,i1,cG,gm,o7,rfl,cR,g1,eo⟩:=U.row cn;obtain⟨fA,i2,dh,e0,qW,rfl,dd,g2,eX⟩:=aa.row Z;rw[<-aU];simp-implicitDefEqProofs(disch:=try exact af) only[tY,yq,bg,bg,bL,fH,ee,Xa bQ.length];exact Vc bQ ls 0 bQ.length (bQ.length+1) H aM eu.2 eo eX aU Z Z g1 g2 Z
 ·have hz:=W_ _ _ aU;simp-implicitDefEqProofs(disch:=try exact af) only[tY,zA,yq,bg,bg,bL,ee,bM,c2,hz];exact a_.2 ⟨by rw[Jt _ _ aU],.refl _⟩
theorem KZ{B:Nat}(ig:B<=1000000000000): ∀(e:cE),tC 65 B e
 | .mk a es b c=>by
  intro eu f v w H ok ok' U aa;cases f with|mk eg es' fq c'=>
  rw[rz] at U aa;obtain⟨ev,bv,fw,rfl,aI,bc,dq⟩:=U;obtain⟨lk,jp,lj,rfl,f1,f2,f3⟩:=aa;rw[kn] at eu;have Ay: ∀e∈b,tC 65 B e:=λe he=>KZ ig e
  have Fh: ∀e∈c,tC 65 B e:=λe he=>KZ ig e
  exact ag_ aI.gi f1.gi bc.gi f2.gi dq.gi f3.gi (λH' p=>U5 ig (λe _=>Vu ig e) eu.1 (aI.aK p) (f1.aK p))
   (λH' p=>Lk ig Ay eu.2.1 (bc.aK p) (f2.aK p)) (λH' p=>Lk ig Fh eu.2.2 (dq.aK p) (f3.aK p))
 termination_by e=>SizeOf.sizeOf e
 decreasing_by
  ·exact cE.Pr he
  ·exact cE.P9 he
end
end Go.Proofs.YtghmbpmaafnodaaGreatDoor
