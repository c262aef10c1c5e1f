/-
  Texts of one proof, laid together: L2 L3 L4 ShL A1.
-/
import Derived.Test.YtghmbpmaafnodaaGreatDoorMO
import Derived.Test.YtghmbpmaafnodaaGreatDoorMD
import Derived.Test.YtghmbpmaafnodaaGreatDoorMG
set_option linter.unusedVariables false
set_option linter.unusedSimpArgs false
namespace Go.Proofs.YtghmbpmaafnodaaGreatDoor
open Go.gd
open Nat (reduceAdd reduceLeDiff)
section
theorem Ql{H:J}{s:bl}(aM:s.length<=1000000000000000000)(N:Nat): ∀(rest:bl) (n m:Nat),s.drop n=rest->n<=s.length->rest.length<m->
  W (xp (aq P ao) N m (.str s) (.int .i64 n) H) λv H'=>v= .bool (vL rest)/\H'=H
 |_,_,0,_,_,hm=>Z
 |[],n,m+1,h,aU,hm=>by
  have:=drop_nil h;have U: ¬((n:Int)<(s.length:Int)):=Z;simp-implicitDefEqProofs(disch:=try exact af) only[xp,mL,oS,oG,reduceAdd,reduceLeDiff,reduceIte,aw,U,decide_false];exact a_.2 ⟨by simp[vL],rfl⟩
 |c::r,n,m+1,h,aU,hm=>by
  obtain⟨aI,bc,dq,eZ⟩:=drop_cons h;have U:((n:Int)<(s.length:Int)):=Z;have aT:=Ql (H:=H) aM N r (n+1) m bc Z (by simp at hm;omega);have hp:=pe aI;simp-implicitDefEqProofs(disch:=try exact af) only[xp,mL,oS,oG,reduceAdd,reduceLeDiff,reduceIte,aw,U,decide_true,hp];refine lB (Bn _) ?_;cases az:lf (c.toNat:Int) with
  |true=>
   simp-implicitDefEqProofs(disch:=try exact af) only[mL,oS,oG,bg,bL,ee,Bool.not_true,mC];refine aT.mono ?_;rintro v H' ⟨rfl,e⟩;exact⟨by simp[vL,hf,az],e⟩
  |false=>
   simp-implicitDefEqProofs(disch:=try exact af) only[mL,oS,oG,reduceAdd,reduceLeDiff,reduceIte,aw,Bool.not_false,hp];refine rA (J0 _) ?_;cases bd:oo (c.toNat:Int) with
   |true=>
    simp-implicitDefEqProofs(disch:=try exact af) only[mL,oS,oG,bg,bL,ee,Bool.not_true,mC];refine aT.mono ?_;rintro v H' ⟨rfl,e⟩;exact⟨by simp[vL,gK,bd],e⟩
   |false=>
    simp-implicitDefEqProofs(disch:=try exact af) only[mL,oS,oG,bg,bL,ee,Bool.not_false];exact a_.2 ⟨by simp[vL,hf,gK,az,bd],rfl⟩
theorem acP{H:J}{s:bl}(aM:s.length<=1000000000000000000):W (aq P ao 79 [.str s] H) λv H'=>v= .bool (iG s)/\aR H H':=by
 refine cP (λ_=>alK (s.length+1)) ?_;cases az:s with
 |nil=>
  have U:((([]:bl).length:Nat):Int)<1:=by simp
  simp-implicitDefEqProofs(disch:=try exact af) only[mL,oS,oG,bg,bL,fH,ee,U,decide_true];exact a_.2 ⟨by simp[iG],.refl _⟩
 |cons c r=>
  rw[<-az];have ox:1<=s.length:=by rw[az];simp
  have U: ¬((s.length:Int)<1):=Z;have nR:s[0]? =some c:=by rw[az];rfl
  have anB:=Hh nR;have b0:s.headD 0=c:=by rw[az];rfl
  by_cases bq:(8:Int)<(s.length:Int)
  ·have MT: ¬s.length<=8:=Z;simp-implicitDefEqProofs(disch:=try exact af) only[mL,oS,oG,bg,bL,fH,ee,U,bq,decide_true,decide_false];exact a_.2 ⟨by simp[iG,MT],.refl _⟩
  ·have MT:s.length<=8:=Z;simp-implicitDefEqProofs(disch:=try exact af) only[mL,oS,oG,bg,bL,fH,ee,U,bq,decide_false,anB];refine rA (Bn _) ?_;cases aS:lf (c.toNat:Int) with
   |false=>
    simp-implicitDefEqProofs(disch:=try exact af) only[mL,oS,oG,bg,bL,Bool.not_false];exact a_.2 ⟨by unfold iG;rw[b0];simp[hf,aS],.refl _⟩
   |true=>
    simp-implicitDefEqProofs(disch:=try exact af) only[mL,oS,oG,bg,bL,Bool.not_true];refine gP (Qn s) ?_;rintro _ bm ⟨rfl,aJ⟩;refine⟨aJ.1,?_⟩;cases hw:rV s with
    |true=>
     simp-implicitDefEqProofs(disch:=try exact af) only[mL,oS,oG,bg,bL];exact a_.2 ⟨by simp[iG,hw],aJ⟩
    |false=>
     simp-implicitDefEqProofs(disch:=try exact af) only[mL,oG,bg,bL];refine(Ql (H:=bm) aM (s.length+1) s 0 (s.length+1) rfl Z Z).mono ?_;rintro v H' ⟨rfl,e⟩;exact⟨by unfold iG;rw[b0];simp[ox,MT,hf,aS,hw],by rw[e];exact aJ⟩
theorem WH(n:Int):B_ P 5 3 (.int .u8 n)=some (.int .i64 (IntKind.i64.wrap n)):=ad
theorem Xb(t:Bool)(a:Int):aW P .quo 3 t (.int .i64 a) (.int .i64 10)=some (.int .i64 (IntKind.i64.wrap (a.tdiv 10))):=by simp[aW,pH]
theorem ana(t:Bool)(a b:Int):aW P .mul 3 t (.int .i64 a) (.int .i64 b)=some (.int .i64 (IntKind.i64.wrap (a*b))):=ae3 _ _ _ _ _
theorem wrap_u8{n:Int}(aY:0<=n)(U:n<=255):IntKind.u8.wrap n=n:=by
 show n%256=n;omega
theorem Qf{H:J}{s:bl}(aM:s.length<=1000000000000000000)(N:Nat): ∀(rest:bl) (n m:Nat) (acc:Int),s.drop n=rest->n<=s.length->rest.length<m->0<=acc->acc<=9223372036854775807->(∀c∈rest,gK c=true)->
  W (vy (aq P ao) N m (.str s) (.int .i64 acc) (.int .i64 n) H) λv H'=>v=(match kK acc rest with|some z=> .tuple [.int .i64 z,.bool true]|none=> .tuple [.int .i64 0,.bool false])/\H'=H
 |_,_,0,_,_,_,hm,_,_,_=>Z
 |[],n,m+1,acc,h,aU,hm,bV,an1,bd=>by
  have:=drop_nil h;have U: ¬((n:Int)<(s.length:Int)):=Z;simp-implicitDefEqProofs(disch:=try exact af) only[vy,xq,B5,AR,reduceAdd,reduceLeDiff,reduceIte,aw,U,decide_false];exact a_.2 ⟨by simp[kK],rfl⟩
 |c::r,n,m+1,acc,h,aU,hm,bV,an1,bd=>by
  obtain⟨aI,bc,dq,eZ⟩:=drop_cons h;have U:((n:Int)<(s.length:Int)):=Z;have hp:=pe aI;have aS:=bd c (by simp);simp only[gK,oo,Bool.and_eq_true,decide_eq_true_eq] at aS;have eo:IntKind.u8.wrap ((c.toNat:Int)-48)=(c.toNat:Int)-48:=wrap_u8 Z Z;have eX:IntKind.i64.wrap ((c.toNat:Int)-48)=(c.toNat:Int)-48:=wrap_i64 Z Z;have lx:IntKind.i64.wrap (9223372036854775807-((c.toNat:Int)-48))=9223372036854775807-((c.toNat:Int)-48):=wrap_i64 Z Z;have qq:(9223372036854775807-((c.toNat:Int)-48)).tdiv 10=(9223372036854775807-((c.toNat:Int)-48))/10:=Int.tdiv_eq_ediv_of_nonneg Z;have ZA:IntKind.i64.wrap ((9223372036854775807-((c.toNat:Int)-48))/10)=(9223372036854775807-((c.toNat:Int)-48))/10:=wrap_i64 Z Z
  by_cases aZ:(9223372036854775807-((c.toNat:Int)-48))/10<acc
  ·simp-implicitDefEqProofs(disch:=try exact af) only[vy,xq,B5,AR,reduceAdd,reduceLeDiff,reduceIte,aw,U,decide_true,hp,eo,eX,lx,qq,ZA,Xb,L1,WH,aZ];exact a_.2 ⟨by simp[kK,aZ],rfl⟩
  ·have apr:IntKind.i64.wrap (10*acc)=10*acc:=wrap_i64 Z Z;have aps:IntKind.i64.wrap (10*acc+((c.toNat:Int)-48))=10*acc+((c.toNat:Int)-48):=wrap_i64 Z Z;have aT:=Qf (H:=H) aM N r (n+1) m (10*acc+((c.toNat:Int)-48)) bc Z (by simp at hm;omega) Z Z (λc aS=>bd c (by simp[aS]));simp-implicitDefEqProofs(disch:=try exact af) only[vy,xq,B5,AR,reduceAdd,reduceLeDiff,reduceIte,aw,U,decide_true,hp,eo,eX,lx,qq,ZA,apr,aps,Xb,ana,L1,WH,aZ,decide_false,mC];refine aT.mono ?_;rintro v H' ⟨rfl,e⟩;exact⟨by rw[kK,if_neg aZ],e⟩
theorem R9: ∀(s:bl),∀c∈s.take (runN true s),gK c=true
 |[],c,h=>by simp[runN] at h
 |x::r,c,h=>by
  rw[runN] at h;cases ag:gK x with
  |true=>
   simp only[ag,Bool.true_or,bC,List.take_succ_cons,List.mem_cons] at h;rcases h with rfl|h
   ·exact ag
   ·exact R9 r c h
  |false=>simp[ag] at h
theorem aa9{H:J}{s:bl}(aM:s.length<=1000000000000000000)(bd: ∀c∈s,gK c=true):W (aq P ao 81 [.str s] H) λv H'=>v=(match kK 0 s with|some z=> .tuple [.int .i64 z,.bool true]|none=> .tuple [.int .i64 0,.bool false])/\H'=H:=by
 refine cP (λ_=>alM (s.length+1)) ?_;rw[AR];exact Qf aM (s.length+1) s 0 (s.length+1) 0 rfl Z Z Z Z bd
theorem HX:P.underlying 9=some .string:=ad
theorem FI{s:List UInt8}{a b:Nat}(U:a<=b)(aa:b<=s.length):kj P 9 (.str s) (some (.int .i64 (a:Int))) (some (.int .i64 (b:Int))) none=some (.str ((s.drop a).take (b-a))):=by
 have aI:hM (some (.int .i64 (b:Int))) s.length s.length=some b:=by simp[hM];omega
 have bc:hM (some (.int .i64 (a:Int))) 0 b=some a:=by simp[hM];omega
 simp only[kj,HX,aI,bc]
theorem QO{H:J}{s:bl}{at_:Nat}{c:UInt8}(aS:s[at_]? =some c)(N:Nat): ∀(rest:bl) (j m:Nat),mn.drop j=rest->j<=18->rest.length<m->
  W (vz (aq P ao) N m (.str s) (.int .i64 at_) (.str mn) (.int .i64 j) H) λv H'=>v= .str (bif o0 c rest then[c] else[])/\H'=H
 |_,_,0,_,_,hm=>Z
 |[],j,m+1,h,bH,hm=>by
  have:=drop_nil h;have az:mn.length=18:=rfl;have U: ¬((j:Int)<(mn.length:Int)):=Z;simp-implicitDefEqProofs(disch:=try exact af) only[vz,rI,B6,ua,t_,t8,tj,reduceAdd,reduceLeDiff,reduceIte,aw,U,decide_false];exact a_.2 ⟨by simp[o0],rfl⟩
 |y::r,j,m+1,h,bH,hm=>by
  obtain⟨aI,bc,dq,eZ⟩:=drop_cons h;have az:mn.length=18:=rfl;have U:((j:Int)<(mn.length:Int)):=Z;have hp:=pe aI;have oC:=pe aS;have aT:=QO (H:=H) aS N r (j+1) m bc Z (by simp at hm;omega);have ff:=FI (s:=mn) (a:=j) (b:=j+1) Z Z;have hE:(mn.drop j).take (j+1-j)=[y]:=by rw[h,Nat.add_sub_cancel_left];rfl
  rw[hE] at ff;cases he:((c.toNat:Int)==(y.toNat:Int)) with
  |true=>
   have Ic:c=y:=by
    have:(c.toNat:Int)=(y.toNat:Int):=by simpa using he
    exact UInt8.toNat_inj.1 Z
   have fR:(c.toNat==y.toNat)=true:=by rw[Ic];simp
   simp-implicitDefEqProofs(disch:=try exact af) only[vz,rI,B6,ua,t_,t8,tj,reduceAdd,reduceLeDiff,reduceIte,aw,U,decide_true,hp,oC,he,mC,ff];exact a_.2 ⟨by simp[o0,fR,Ic],rfl⟩
  |false=>
   have fR:(c.toNat==y.toNat)=false:=by
    have: ¬(c.toNat:Int)=(y.toNat:Int):=by simpa using he
    simp;omega
   simp-implicitDefEqProofs(disch:=try exact af) only[vz,rI,B6,ua,t_,t8,tj,reduceAdd,reduceLeDiff,reduceIte,aw,U,decide_true,hp,oC,he,mC];refine aT.mono ?_;rintro v H' ⟨rfl,e⟩;exact⟨by simp[o0,fR],e⟩
theorem ade{H:J}{s:bl}{at_:Nat}{c:UInt8}(aS:s[at_]? =some c){N:Nat}(dU:18<N):W (ua (aq P ao) N (.str s) (.int .i64 at_) H) λv H'=>v= .str (bif o0 c mn then[c] else[])/\H'=H:=by
 rw[ua];exact QO aS N mn 0 N rfl Z (by simp[mn];omega)
theorem Sf{H:J}{s:bl}(aM:s.length<=1000000000000000000){at_:Nat}{c:UInt8}{r:bl}(bd:s.drop at_=c::r){l:Nat}{N:Nat}(dU:18<N)(aZ:H.get l=some (.row false 1 (oV.map λy=>[I.str y]))): ∀(rest pre:List bl),oV=pre++rest-> ∀(m:Nat),rest.length<m->
  W (ub (aq P ao) N m (.str s) (.int .i64 at_) (.aN l 0 5 1 (some 5)) (.int .i64 pre.length) H) λv H'=>v= .str (bif decide (2<=(s.drop at_).length)&&lh ((s.drop at_).take 2) rest then(s.drop at_).take 2 else bif o0 c mn then[c] else[])/\H'=H
 |_,_,_,0,hm=>Z
 |[],pre,bw,m+1,hm=>by
  have az:pre.length=5:=by have:=congrArg List.length bw;simpa [oV] using this.symm
  have U: ¬((pre.length:Int)<((5:Nat):Int)):=Z;obtain⟨aI,bc,dq,eZ⟩:=drop_cons bd;simp-implicitDefEqProofs(disch:=try exact af) only[ub,rI,t_,t8,tj,reduceAdd,reduceLeDiff,reduceIte,aw,U,decide_false];refine(ade aI dU).mono ?_;rintro v H' ⟨rfl,e⟩;exact⟨by simp[lh],e⟩
 |y::dX,pre,bw,m+1,hm=>by
  obtain⟨aI,bc,dq,eZ⟩:=drop_cons bd;have az:pre.length+(dX.length+1)=5:=by have:=congrArg List.length bw;simpa [oV] using this.symm
  have U:((pre.length:Int)<((5:Nat):Int)):=Z;have aY:(0:Int)<=(pre.length:Int):=Z;have t1:((pre.length:Int)).toNat=pre.length:=Z;have he:(oV.map λy=>[I.str y])[pre.length]? =some [I.str y]:=by rw[bw];simp
  have hw:((pre++[y]).length:Int)=((pre.length+1:Nat):Int):=by simp
  have aT:=Sf (H:=H) aM bd dU aZ dX (pre++[y]) (by simp[bw]) m (by simp at hm;omega);rw[hw] at aT;have Ie:(s.drop at_).length=s.length-at_:=by simp
  have AS:IntKind.i64.wrap ((s.length:Int)-(at_:Int))=((s.length-at_:Nat):Int):=Zi s.length at_ Z Z;have E6:=J.aX aZ;by_cases aa:(2:Int)<=((s.length-at_:Nat):Int)
  ·have hq:decide (2<=(s.drop at_).length)=true:=by rw[Ie];simp;omega
   have ff:=FI (s:=s) (a:=at_) (b:=at_+2) Z Z;rw[Nat.add_sub_cancel_left] at ff;cases aS:((s.drop at_).take 2==y) with
   |true=>
    have cV:(s.drop at_).take 2=y:=by simpa using aS
    have Nq:(y==(s.drop at_).take 2)=true:=by rw[cV];simp
    simp-implicitDefEqProofs(disch:=try exact af) only[ub,rI,t_,t8,tj,reduceAdd,reduceLeDiff,reduceIte,aw,U,decide_true,AS,aa,I3,ff,aZ,he,t1,aS];exact a_.2 ⟨by rw[lh,hq,Nq];rw[cV];rfl,rfl⟩
   |false=>
    have Nq:(y==(s.drop at_).take 2)=false:=by
     have: ¬(s.drop at_).take 2=y:=by simpa using aS
     simp;exact λe=>this e.symm
    simp-implicitDefEqProofs(disch:=try exact af) only[ub,rI,t_,t8,tj,reduceAdd,reduceLeDiff,reduceIte,aw,U,decide_true,AS,aa,I3,ff,aZ,he,t1,aS,mC];refine aT.mono ?_;rintro v H' ⟨rfl,e⟩;exact⟨by simp only[lh,Nq,Bool.false_or],e⟩
  ·have hq:decide (2<=(s.drop at_).length)=false:=by rw[Ie];simp;omega
   simp-implicitDefEqProofs(disch:=try exact af) only[ub,rI,t_,t8,tj,reduceAdd,reduceLeDiff,reduceIte,aw,U,decide_true,AS,aa,decide_false,mC];refine aT.mono ?_;rintro v H' ⟨rfl,e⟩;exact⟨by simp only[hq,Bool.false_and],e⟩
theorem aeE{H:J}{s:bl}(aM:s.length<=1000000000000000000){at_:Nat}(bV:at_<s.length):W (aq P ao 82 [.str s,.int .i64 at_] H) λv H'=>v= .str (lg (s.drop at_))/\aR H H':=by
 refine cP (λ_=>alN 30) ?_;obtain⟨c,r,bd⟩: ∃c r,s.drop at_=c::r:=by
  cases h:s.drop at_ with
  |nil=>have:=drop_nil h;omega
  |cons c r=>exact⟨c,r,rfl⟩
 rw[tj];simp only[yI];rw[t8];refine(Sf (H:=H.push _) aM bd Z (J.ca _ _) oV [] rfl 30 cm).mono ?_;rintro v H' ⟨rfl,rfl⟩;refine⟨?_,aR.push _ _⟩;rw[bd];rfl
theorem R4{H:J}{s:bl}(aM:s.length<=1000000000000000000)(bD:I->I->J->O)(N:Nat)(Q:I->J->Prop): ∀(rest:bl) (at_ m:Nat),s.drop at_=rest->at_<=s.length->rest.length<m->
  (∀(k:Nat),(∀c' hT,rest=c'::hT->c'.toNat≠10->0<k)->at_+k<=s.length->(s.drop (at_+k)).length<=rest.length->k+eh false (s.drop (at_+k))=eh true rest->W (bD (.str s) (.int .i64 ((at_+k:Nat):Int)) H) Q)->
  W (vu (aq P ao) N bD m (.str s) (.int .i64 at_) H) Q
 |_,_,0,_,_,hm,_=>Z
 |[],at_,m+1,h,bV,hm,ah=>by
  have:=drop_nil h;have U: ¬((at_:Int)<(s.length:Int)):=Z;simp-implicitDefEqProofs(disch:=try exact af) only[vu,nt,B3,pg,reduceAdd,reduceLeDiff,reduceIte,aw,U,decide_false];exact ah 0 (λ_ _ e=>by cases e) bV (by simpa using congrArg List.length h) (by simp[h,eh])
 |c::r,at_,m+1,h,bV,hm,ah=>by
  obtain⟨aI,bc,dq,eZ⟩:=drop_cons h;have U:((at_:Int)<(s.length:Int)):=Z;have hp:=pe aI;cases aS:((c.toNat:Int) != 10) with
  |false=>
   have oC:c.toNat=10:=by
    have:(c.toNat:Int)=10:=by simpa using aS
    omega
   simp-implicitDefEqProofs(disch:=try exact af) only[vu,nt,B3,pg,reduceAdd,reduceLeDiff,reduceIte,aw,U,decide_true,hp,aS];refine ah 0 (λ_ _ e aU=>by cases e;exact absurd oC aU) bV (by simp only[Nat.add_zero,h];omega) ?_;simp[h,eh,py,oC]
  |true=>
   have oC:(c.toNat==10)=false:=by
    have: ¬(c.toNat:Int)=10:=by simpa using aS
    simp;omega
   simp-implicitDefEqProofs(disch:=try exact af) only[vu,nt,B3,pg,reduceAdd,reduceLeDiff,reduceIte,aw,U,decide_true,hp,aS,mC];refine R4 aM bD N Q r (at_+1) m bc Z (by simp at hm;omega) (λk _ U aa ae=> ?_);have aof:at_+1+k=at_+(k+1):=Z;rw[aof] at U aa ae ⊢;refine ah (k+1) (λ_ _ _ _=>Z) U (by simp only[List.length_cons];omega) ?_;simp only[eh,oC,bj];omega
theorem JY{H:J}{s:bl}(aM:s.length<=1000000000000000000)(N:Nat)(dU:s.length<N): ∀(q:Nat) (rest:bl) (at_ m:Nat),rest.length<=q->s.drop at_=rest->at_<=s.length->rest.length<m->
  W (oj (aq P ao) N m (.str s) (.int .i64 at_) H) λv H'=>v= .int .i64 ((at_+eh false rest:Nat):Int)/\H'=H
 |_,_,_,0,_,_,_,hm=>Z
 |_,[],at_,m+1,_,h,bV,hm=>by
  have:=drop_nil h;have U: ¬((at_:Int)<(s.length:Int)):=Z;simp-implicitDefEqProofs(disch:=try exact af) only[oj,nt,sK,pg,reduceAdd,reduceLeDiff,reduceIte,aw,U,decide_false];exact a_.2 ⟨by simp[eh],rfl⟩
 |0,c::r,at_,m+1,bi,h,bV,hm=>by simp at bi
 |q+1,c::r,at_,m+1,bi,h,bV,hm=>by
  obtain⟨aI,bc,dq,eZ⟩:=drop_cons h;have U:((at_:Int)<(s.length:Int)):=Z;have hp:=pe aI;simp only[List.length_cons] at bi hm;have Im:py c=true->W (oj (aq P ao) N m (.str s) (.int .i64 ((at_+1:Nat):Int)) H) λv H'=>v= .int .i64 ((at_+eh false (c::r):Nat):Int)/\H'=H:=by
   intro ax;refine(JY (H:=H) aM N dU q r (at_+1) m Z bc Z Z).mono ?_;rintro v H' ⟨rfl,e⟩;have cN:at_+1+eh false r=at_+eh false (c::r):=by
    rw[eh,ax,bC];omega
   exact⟨by rw[cN],e⟩
  have AJ:((c.toNat:Int)==32)=(c.toNat==32):=by rw[Bool.eq_iff_iff];simp;omega
  have sq:((c.toNat:Int)==9)=(c.toNat==9):=by rw[Bool.eq_iff_iff];simp;omega
  have ws:((c.toNat:Int)==10)=(c.toNat==10):=by rw[Bool.eq_iff_iff];simp;omega
  have Ir:((c.toNat:Int)==13)=(c.toNat==13):=by rw[Bool.eq_iff_iff];simp;omega
  cases v8:c.toNat==32 with
  |true=>
   simp-implicitDefEqProofs(disch:=try exact af) only[oj,nt,sK,pg,reduceAdd,reduceLeDiff,reduceIte,aw,U,decide_true,hp,AJ,v8,mC];exact Im (by simp only[py,v8,Bool.true_or])
  |false=>
   cases c9:c.toNat==9 with
   |true=>
    simp-implicitDefEqProofs(disch:=try exact af) only[oj,nt,sK,pg,reduceAdd,reduceLeDiff,reduceIte,aw,U,decide_true,hp,AJ,v8,sq,c9,mC];exact Im (by simp only[py,c9,Bool.true_or,Bool.or_true])
   |false=>
    cases Am:c.toNat==10 with
    |true=>
     simp-implicitDefEqProofs(disch:=try exact af) only[oj,nt,sK,pg,reduceAdd,reduceLeDiff,reduceIte,aw,U,decide_true,hp,AJ,v8,sq,c9,ws,Am,mC];exact Im (by simp only[py,Am,Bool.true_or,Bool.or_true])
    |false=>
     cases CP:c.toNat==13 with
     |true=>
      simp-implicitDefEqProofs(disch:=try exact af) only[oj,nt,sK,pg,reduceAdd,reduceLeDiff,reduceIte,aw,U,decide_true,hp,AJ,v8,sq,c9,ws,Am,Ir,CP,mC];exact Im (by simp only[py,CP,Bool.or_true])
     |false=>
      have aom:py c=false:=by simp only[py,v8,c9,Am,CP,Bool.or_self]
      have AS:IntKind.i64.wrap ((s.length:Int)-(at_:Int))=((s.length-at_:Nat):Int):=Zi s.length at_ Z Z;have jf:(c==47&&r.head?==some 47)=false->eh false (c::r)=0:=λb0=>by rw[eh,aom,bj,b0,bj]
      by_cases aa:(2:Int)<=((s.length-at_:Nat):Int)
      ·have ff:=FI (s:=s) (a:=at_) (b:=at_+2) Z Z;rw[Nat.add_sub_cancel_left,h] at ff;obtain⟨y,dX,rfl⟩: ∃y dX,r=y::dX:=by
        cases r with
        |nil=>simp at eZ;omega
        |cons y dX=>exact⟨y,dX,rfl⟩
       simp only[List.take_succ_cons,List.take_zero] at ff;cases a8:(([c,y]:bl)==[47,47]) with
       |true=>
        have Ic:c=47/\y=47:=by simpa using a8
        obtain⟨rfl,rfl⟩:=Ic;simp-implicitDefEqProofs(disch:=try exact af) only[oj,nt,sK,pg,reduceAdd,reduceLeDiff,reduceIte,aw,U,decide_true,hp,AJ,v8,sq,c9,ws,Am,Ir,CP,AS,aa,I3,ff,a8];refine R4 aM (oj (aq P ao) N m) N _ (47::47::dX) at_ N h bV (by simp only[List.length_cons] at eZ ⊢;omega) (λk apj cG dh dL=> ?_);have iW:=apj 47 _ rfl cm;have hle:(s.drop (at_+k)).length<=q:=by
         simp only[List.length_drop,List.length_cons] at bi eZ ⊢;omega
        refine(JY (H:=H) aM N dU q (s.drop (at_+k)) (at_+k) m hle rfl cG (by simp only[List.length_drop,List.length_cons] at hm eZ ⊢;omega)).mono ?_;rintro v H' ⟨rfl,e⟩;have ax:eh false (47::47::dX)=eh true (47::47::dX):=by
         have aI:eh false (47::47::dX)=eh true (47::dX)+1:=rfl;have bc:eh true (47::47::dX)=eh true (47::dX)+1:=rfl;rw[aI,bc]
        refine⟨?_,e⟩;rw[ax,<-dL,Nat.add_assoc]
       |false=>
        have b0:(c==47&&(y::dX).head?==some 47)=false:=by
         have: ¬(c=47/\y=47):=by simpa using a8
         simpa using this
        simp-implicitDefEqProofs(disch:=try exact af) only[oj,nt,sK,pg,reduceAdd,reduceLeDiff,reduceIte,aw,U,decide_true,hp,AJ,v8,sq,c9,ws,Am,Ir,CP,AS,aa,I3,ff,a8];exact a_.2 ⟨by rw[jf b0,Nat.add_zero],rfl⟩
      ·have a8:r=[]:=by
        cases r with
        |nil=>rfl
        |cons y dX=>simp only[List.length_cons] at eZ;omega
       have b0:(c==47&&r.head?==some 47)=false:=by rw[a8];simp
       simp-implicitDefEqProofs(disch:=try exact af) only[oj,nt,sK,pg,reduceAdd,reduceLeDiff,reduceIte,aw,U,decide_true,hp,AJ,v8,sq,c9,ws,Am,Ir,CP,AS,aa,decide_false];exact a_.2 ⟨by rw[jf b0,Nat.add_zero],rfl⟩
theorem PJ{H:J}{s:bl}(aM:s.length<=1000000000000000000){at_:Nat}(bV:at_<=s.length):W (aq P ao 57 [.str s,.int .i64 at_] H) λv H'=>v= .int .i64 ((at_+eh false (s.drop at_):Nat):Int)/\H'=H:=by
 refine cP (λ_=>alq (s.length+1)) ?_;rw[pg];exact JY aM (s.length+1) Z s.length (s.drop at_) at_ (s.length+1) (by simp) rfl bV (by simp;omega)
end
section
theorem Lv(k:Int)(x:bl)(p:Int):cO P 57 [(0,.int .i64 k),(1,.str x),(3,.int .i64 p)]=some (.agg [.int .i64 k,.str x,.int .i64 0,.int .i64 p]):=ad
theorem Hd(k:Int)(z:Int)(p:Int):cO P 57 [(0,.int .i64 k),(2,.int .i64 z),(3,.int .i64 p)]=some (.agg [.int .i64 k,.str [],.int .i64 z,.int .i64 p]):=ad
theorem VJ(k:Int)(p:Int):cO P 57 [(0,.int .i64 k),(3,.int .i64 p)]=some (.agg [.int .i64 k,.str [],.int .i64 0,.int .i64 p]):=ad
theorem DT(d:Bool): ∀s:bl,runN d s<=s.length
 |[]=>bN _
 |c::r=>by
  rw[runN];have:=DT d r;cases gK c||(!d&&hf c) with
  |true=>simp only[bC,List.length_cons];omega
  |false=>simp only[bj,List.length_cons];omega
def uw(p:Nat):Option (Int×bl×Int×Nat)->I
 |none=> .tuple [.agg [.int .i64 0,.str [],.int .i64 0,.int .i64 0],.int .i64 0]
 |some (k,t,v,m)=> .tuple [.agg [.int .i64 k,.str t,.int .i64 v,.int .i64 p],.int .i64 m]
theorem afh{H:J}{s:bl}(aM:s.length<=1000000000000000000){at_:Nat}(bV:at_<s.length):W (aq P ao 58 [.str s,.int .i64 at_] H) λv H'=>v=uw at_ (j6 (s.drop at_))/\aR H H':=by
 refine cP (λ_=>alr 0) ?_;obtain⟨c,r,bd⟩: ∃c r,s.drop at_=c::r:=by
  cases h:s.drop at_ with
  |nil=>have:=drop_nil h;omega
  |cons c r=>exact⟨c,r,rfl⟩
 obtain⟨aI,bc,dq,eZ⟩:=drop_cons bd;have hp:=pe aI;have aV:=aR.push H (.row false 4 [[.int .i64 0,.str [],.int .i64 0,.int .i64 0]]);have YD:=λd=>DT d (s.drop at_)
 have Ie:(s.drop at_).length=s.length-at_:=by simp
 simp-implicitDefEqProofs(disch:=try exact af) only[jL,reduceAdd,reduceLeDiff,reduceIte,aw,hp];refine lB (Bn _) ?_;cases az:lf (c.toNat:Int) with
 |true=>
  simp-implicitDefEqProofs(disch:=try exact af) only[jL,bg,bL];refine lB (Sb aM at_ Z false) ?_;have a8:=YD false;have ff:=FI (s:=s) (a:=at_) (b:=at_+runN false (s.drop at_)) Z Z;rw[Nat.add_sub_cancel_left] at ff;simp-implicitDefEqProofs(disch:=try exact af) only[jL,bg,bL,ee,si,ff];refine a6 (Qn _) ?_;rintro _ bm ⟨rfl,aJ⟩;refine⟨aJ.1,?_⟩;have g2:bm.get H.next=some (.row false 4 [[.int .i64 0,.str [],.int .i64 0,.int .i64 0]]):=aJ.get (J.ca _ _)
  have fA:=J.aX g2;have dN:j6 (s.drop at_)=(bif rV ((s.drop at_).take (runN false (s.drop at_))) then some (3,(s.drop at_).take (runN false (s.drop at_)),0,runN false (s.drop at_)) else bif iG ((s.drop at_).take (runN false (s.drop at_))) then some (1,(s.drop at_).take (runN false (s.drop at_)),0,runN false (s.drop at_)) else none):=by
   have iw:hf c=true:=az;simp only[bd,j6,iw,bC]
  cases hw:rV ((s.drop at_).take (runN false (s.drop at_))) with
  |true=>
   rw[dN,hw];simp-implicitDefEqProofs(disch:=try exact af) only[jL,reduceAdd,reduceLeDiff,reduceIte,aw,Lv,g2];exact a_.2 ⟨rfl,(aV.trans aJ).db (bN _) _⟩
  |false=>
   rw[dN,hw];simp-implicitDefEqProofs(disch:=try exact af) only[jL,bg,bL];refine a6 (acP (by simp only[List.length_take];omega)) ?_;rintro _ cT ⟨rfl,bB⟩;refine⟨bB.1,?_⟩;have g3:=bB.get g2;have gS:=J.aX g3;cases aU:iG ((s.drop at_).take (runN false (s.drop at_))) with
   |true=>
    simp-implicitDefEqProofs(disch:=try exact af) only[jL,reduceAdd,reduceLeDiff,reduceIte,aw,Lv,g3];exact a_.2 ⟨rfl,((aV.trans aJ).trans bB).db (bN _) _⟩
   |false=>
    simp-implicitDefEqProofs(disch:=try exact af) only[jL,reduceAdd,reduceLeDiff,reduceIte,aw,g3];exact a_.2 ⟨rfl,((aV.trans aJ).trans bB).db (bN _) _⟩
 |false=>
  simp-implicitDefEqProofs(disch:=try exact af) only[jL,bg,bL,hp];refine lB (J0 _) ?_;have iw:hf c=false:=az;have g1:(H.push (.row false 4 [[.int .i64 0,.str [],.int .i64 0,.int .i64 0]])).get H.next=some (.row false 4 [[.int .i64 0,.str [],.int .i64 0,.int .i64 0]]):=J.ca _ _
  cases aZ:oo (c.toNat:Int) with
  |true=>
   have gF:gK c=true:=aZ;simp-implicitDefEqProofs(disch:=try exact af) only[jL,bg,bL];refine lB (Sb aM at_ Z true) ?_;have a8:=YD true;have ff:=FI (s:=s) (a:=at_) (b:=at_+runN true (s.drop at_)) Z Z;rw[Nat.add_sub_cancel_left] at ff;simp-implicitDefEqProofs(disch:=try exact af) only[jL,bg,bL,ee,si,ff];refine lB (aa9 (by simp only[List.length_take];omega) (λc aS=>R9 _ c aS)) ?_;have dN:j6 (s.drop at_)=(match kK 0 ((s.drop at_).take (runN true (s.drop at_))) with
    |none=>none
    |some v=>bif (decide (1<runN true (s.drop at_))&&c.toNat==48)||(decide (runN true (s.drop at_)<(s.drop at_).length)&&hf (((s.drop at_)[runN true (s.drop at_)]?).getD 0)) then none else some (2,[],v,runN true (s.drop at_))):=by
    simp only[bd,j6,iw,gF,bC,bj]<;>rfl
   rw[dN];cases bA:kK 0 ((s.drop at_).take (runN true (s.drop at_))) with
   |none=>
    simp-implicitDefEqProofs(disch:=try exact af) only[jL,reduceAdd,reduceLeDiff,reduceIte,aw,Bool.not_false,g1];exact a_.2 ⟨rfl,aR.push _ _⟩
   |some z=>
    generalize ce:runN true (s.drop at_)=R at*;have cD:decide (1<R)=decide ((1:Int)<(R:Int)):=by rw[decide_eq_decide];omega
    have NF:((c.toNat:Int)==48)=(c.toNat==48):=by rw[Bool.eq_iff_iff];simp;omega
    have cu:decide (R<(s.drop at_).length)=decide (((at_+R:Nat):Int)<(s.length:Int)):=by rw[decide_eq_decide,Ie];omega
    rw[cD,cu];simp only
    cases U:decide ((1:Int)<(R:Int)) with
    |true=>
     cases Aq:c.toNat==48 with
     |true=>
      simp-implicitDefEqProofs(disch:=try exact af) only[jL,reduceAdd,reduceLeDiff,reduceIte,aw,Bool.not_true,U,hp,NF,Aq,g1];exact a_.2 ⟨rfl,aR.push _ _⟩
     |false=>
      cases aa:decide (((at_+R:Nat):Int)<(s.length:Int)) with
      |false=>
       simp-implicitDefEqProofs(disch:=try exact af) only[jL,reduceAdd,reduceLeDiff,reduceIte,aw,Bool.not_true,U,hp,NF,Aq,si,aa,g1,Hd];exact a_.2 ⟨rfl,aR.push _ _⟩
      |true=>
       obtain⟨y,cV⟩: ∃y,s[at_+R]? =some y:=⟨s[at_+R]'(by have:=of_decide_eq_true aa;omega),by simp⟩;have Nn:=pe cV;have No:(s.drop at_)[R]? =some y:=by rw[List.getElem?_drop];exact cV
       simp-implicitDefEqProofs(disch:=try exact af) only[jL,reduceAdd,reduceLeDiff,reduceIte,aw,Bool.not_true,U,hp,NF,Aq,si,aa,Nn];refine rA (Bn _) ?_;rw[No];cases AD:lf (y.toNat:Int) with
       |true=>
        have AC:hf y=true:=AD;simp-implicitDefEqProofs(disch:=try exact af) only[jL,reduceAdd,reduceLeDiff,reduceIte,aw,g1,Option.getD_some,AC];exact a_.2 ⟨rfl,aR.push _ _⟩
       |false=>
        have AC:hf y=false:=AD;simp-implicitDefEqProofs(disch:=try exact af) only[jL,reduceAdd,reduceLeDiff,reduceIte,aw,g1,Hd,Option.getD_some,AC];exact a_.2 ⟨rfl,aR.push _ _⟩
    |false=>
     cases aa:decide (((at_+R:Nat):Int)<(s.length:Int)) with
     |false=>
      simp-implicitDefEqProofs(disch:=try exact af) only[jL,reduceAdd,reduceLeDiff,reduceIte,aw,Bool.not_true,U,si,aa,g1,Hd];exact a_.2 ⟨rfl,aR.push _ _⟩
     |true=>
      obtain⟨y,cV⟩: ∃y,s[at_+R]? =some y:=⟨s[at_+R]'(by have:=of_decide_eq_true aa;omega),by simp⟩;have Nn:=pe cV;have No:(s.drop at_)[R]? =some y:=by rw[List.getElem?_drop];exact cV
      simp-implicitDefEqProofs(disch:=try exact af) only[jL,reduceAdd,reduceLeDiff,reduceIte,aw,Bool.not_true,U,si,aa,Nn];refine rA (Bn _) ?_;rw[No];cases AD:lf (y.toNat:Int) with
      |true=>
       have AC:hf y=true:=AD;simp-implicitDefEqProofs(disch:=try exact af) only[jL,reduceAdd,reduceLeDiff,reduceIte,aw,g1,Option.getD_some,AC];exact a_.2 ⟨rfl,aR.push _ _⟩
      |false=>
       have AC:hf y=false:=AD;simp-implicitDefEqProofs(disch:=try exact af) only[jL,reduceAdd,reduceLeDiff,reduceIte,aw,g1,Hd,Option.getD_some,AC];exact a_.2 ⟨rfl,aR.push _ _⟩
  |false=>
   have gF:gK c=false:=aZ;simp-implicitDefEqProofs(disch:=try exact af) only[jL,bg,bL];refine a6 (aeE aM bV) ?_;rintro _ bm ⟨rfl,aJ⟩;refine⟨aJ.1,?_⟩;have g2:bm.get H.next=some (.row false 4 [[.int .i64 0,.str [],.int .i64 0,.int .i64 0]]):=aJ.get (J.ca _ _)
   have fA:=J.aX g2;have dN:j6 (s.drop at_)=(bif lg (s.drop at_)==[] then none else some (4,lg (s.drop at_),0,(lg (s.drop at_)).length)):=by
    simp only[bd,j6,iw,gF,bj]
   rw[dN];cases YE:lg (s.drop at_)==[] with
   |true=>
    simp-implicitDefEqProofs(disch:=try exact af) only[jL,reduceAdd,reduceLeDiff,reduceIte,aw,YE,g2];exact a_.2 ⟨rfl,(aV.trans aJ).db (bN _) _⟩
   |false=>
    simp-implicitDefEqProofs(disch:=try exact af) only[jL,reduceAdd,reduceLeDiff,reduceIte,aw,YE,g2,Lv];exact a_.2 ⟨rfl,(aV.trans aJ).db (bN _) _⟩
theorem G6(l:Nat)(t:Tok):dK P l 50 1 [(0,t.v)]=some (.aN l 0 1 4 (some 1),.row false 4 [t.cells]):=by
 obtain⟨k,x,n,p⟩:=t;kernel_rfl
theorem XE:P.underlying 50=some (.slice 57):=ad
theorem WF:rv P 57=some 40:=ad
theorem WE:j2 P 57=some (.agg [.int .i64 0,.str [],.int .i64 0,.int .i64 0]):=ad
theorem aeO{H:J}{L:Nat}{cs:List I}{cap:Option Nat}{ro:Bool}(aZ:H.get L=some (.row ro 4 [cs])):fQ P H [50,50] .ap (.aN L 0 1 4 cap)=some (.aN H.next 0 1 4 none,H.push (.row false 4 [cs])):=by
 simp[fQ,XE,HW,WF,WE,sM,pV,aZ,I.cells]
theorem afK{H:J}{L l n:Nat}{cs:List I}{els:List (List I)}{cap:Option Nat}{ro:Bool}(aZ:H.get L=some (.row ro 4 [cs]))(az:H.get l=some (.row false 4 els))(aU:els.length=n)(ax:n<=1000000000):fQ P H [50,50] (.aN l 0 n 4 none) (.aN L 0 1 4 cap)=some (.aN H.next 0 (n+1) 4 none,(H.set l .dead).push (.row false 4 (els++[cs]))):=by
 have U:(n+1)*40<=140737488355328:=Z;have aa:n+1<=9223372036854775807:=Z;simp[fQ,XE,HW,WF,WE,sM,pV,aZ,az,I.cells,aU,U,aa];rw[List.take_of_length_le Z]
def vZ(H0 H:J)(v:I)(T:List Tok):Prop:=(v= .ap/\T=[])\/ ∃l,v= .aN l 0 T.length 4 none/\H0.next<=l/\H.get l=some (.row false 4 (T.map Tok.cells))
theorem vZ.tok{H0 H:J}{v:I}{T:List Tok}(h:vZ H0 H v T):ih H v T:=by
 rcases h with h|⟨l,rfl,_,aa⟩
 ·exact .inl h
 ·refine .inr ⟨l,0,none,rfl,.inr ⟨false,_,aa,λk t ah=> ?_⟩⟩;simp[ah]
theorem vZ.aK{H0 H H':J}{v:I}{T:List Tok}(h:vZ H0 H v T)(p:aR H H'):vZ H0 H' v T:=by
 rcases h with h|⟨l,e,U,aa⟩
 ·exact .inl h
 ·exact .inr ⟨l,e,U,p.get aa⟩
theorem GI{H0 H:J}{v:I}{T:List Tok}(h:vZ H0 H v T)(p:aR H0 H)(aH:T.length<=1000000)(t:Tok): ∃dr H',fQ P (H.push (.row false 4 [t.cells])) [50,50] v (.aN H.next 0 1 4 (some 1))=some (dr,H')/\vZ H0 H' dr (T++[t])/\aR H0 H'/\(H.push (.row false 4 [t.cells])).next<=H'.next/\(∀l,l<H.next->(∀e,v≠ .aN l 0 T.length 4 e)->H'.get l=H.get l):=by
 have aZ:(H.push (.row false 4 [t.cells])).get H.next=some (.row false 4 [t.cells]):=J.ca _ _
 rcases h with⟨rfl,rfl⟩|⟨l,rfl,U,aa⟩
 ·refine⟨_,_,aeO aZ,.inr ⟨_,rfl,?_,?_⟩,(p.bX _).bX _,by simp,λl az _=> ?_⟩
  ·have:=p.1;simp only[J.b2];omega
  ·exact J.ca (H.push (.row false 4 [t.cells])) _
  ·rw[J.gD (by simp only[J.b2];omega),J.gD Z]
 ·have az:=J.aX aa;have hq:(H.push (.row false 4 [t.cells])).get l=some (.row false 4 (T.map Tok.cells)):=by rw[J.gD Z];exact aa
  refine⟨_,_,afK aZ hq (by simp) Z,.inr ⟨(H.push (.row false 4 [t.cells])).next,by simp,?_,?_⟩,?_,by simp,λj bH dM=> ?_⟩
  ·have:=p.1;simp only[J.b2,J.e9];omega
  ·have e:((H.push (.row false 4 [t.cells])).set l .dead).next=(H.push (.row false 4 [t.cells])).next:=rfl
   simp only[List.map_append,List.map_cons,List.map_nil];rw[<-e];exact J.ca _ _
  ·exact((p.bX _).db U _).bX _
  ·rw[J.gD (by simp only[J.b2,J.e9];omega),J.get_set_other (by rintro rfl;exact dM _ rfl),J.gD Z]
end
section
theorem KE(d:Bool)(c:UInt8)(r:bl)(h:(gK c||(!d&&hf c))=true):1<=runN d (c::r):=by
 rw[runN,h];simp
theorem afw(s:bl):(lg s).length<=s.length:=by
 unfold lg;cases decide (2<=s.length)&&lh (s.take 2) oV with
 |true=>simp only[bC,List.length_take];omega
 |false=>
  simp only[bj];cases s with
  |nil=>simp
  |cons c r=>simp only[List.length_cons];cases o0 c mn<;>simp
theorem KA{s:bl}{k:Int}{t:bl}{v:Int}{m:Nat}(h:j6 s=some (k,t,v,m)):1<=m/\m<=s.length:=by
 cases s with
 |nil=>simp[j6] at h
 |cons c r=>
  have a8:=λd=>DT d (c::r)
  rw[j6] at h;cases az:hf c with
  |true=>
   have bw:=KE false c r (by simp[az]);rw[az,bC] at h;cases hw:rV ((c::r).take (runN false (c::r))) with
   |true=>rw[hw,bC] at h;cases h;exact⟨bw,a8 false⟩
   |false=>
    rw[hw,bj] at h;cases aU:iG ((c::r).take (runN false (c::r))) with
    |true=>rw[aU,bC] at h;cases h;exact⟨bw,a8 false⟩
    |false=>rw[aU,bj] at h;cases h
  |false=>
   rw[az,bj] at h;cases bd:gK c with
   |true=>
    have bw:=KE true c r (by simp[bd]);rw[bd,bC] at h;split at h
    ·cases h
    ·rename_i z cn;rw[Bool.cond_eq_ite] at h;split at h
     ·cases h
     ·cases h;exact⟨bw,a8 true⟩
   |false=>
    rw[bd,bj] at h;cases aM:lg (c::r)==[] with
    |true=>rw[aM,bC] at h;cases h
    |false=>
     rw[aM,bj] at h;cases h;have dM: ¬lg (c::r)=[]:=by simpa using aM
     have:=afw (c::r);exact⟨List.length_pos_iff.2 dM,this⟩
theorem wK: ∀(s:bl) (b:Bool),eh b s<=s.length
 |[],b=>by cases b<;>simp[eh]
 |c::r,true=>by
  have U:=wK r true;have aa:=wK r false;rw[eh];cases c.toNat==10<;>simp only[bC,bj,List.length_cons]<;>omega
 |c::r,false=>by
  have U:=wK r true;have aa:=wK r false;rw[eh];cases py c
  ·cases(c==47&&r.head?==some 47)<;>simp only[bC,bj,List.length_cons]<;>omega
  ·simp only[bC,List.length_cons];omega
def GH(H0:J)(x:List Tok×Int×Int)(r:I)(H':J):Prop:= ∃ak,r= .tuple [ak,.agg [.int .i64 x.2.1,.int .i64 x.2.2]]/\ih H' ak x.1/\aR H0 H'
def rY(T:List Tok):Nat ⊕ List Tok->List Tok×Int×Int
 | .inl e=>([],1,e)
 | .inr l=>(T++l,0,0)
theorem VI(k p:Int):cO P 29 [(0,.int .i64 k),(1,.int .i64 p)]=some (.agg [.int .i64 k,.int .i64 p]):=ad
theorem Se{H0:J}{s:bl}(aM:s.length<=100000)(N:Nat): ∀(n:Nat) (rest:bl) (at_ m:Nat) (T:List Tok) (v:I) (H:J),s.drop at_=rest->at_<=s.length->vZ (H0.push (.row false 2 [[.int .i64 0,.int .i64 0]])) H v T->aR (H0.push (.row false 2 [[.int .i64 0,.int .i64 0]])) H->T.length<=at_->rest.length<n->rest.length<m->
  W (xh (aq P ao) N m (.str s) (.ptr H0.next 0 0) v (.int .i64 at_) H) (GH H0 (rY T (jo n rest at_)))
 |0,_,_,_,_,_,_,_,_,_,_,_,aU,_=>Z
 |_,_,_,0,_,_,_,_,_,_,_,_,_,hm=>Z
 |n+1,[],at_,m+1,T,v,H,h,bV,ax,p,aH,aU,hm=>by
  have hlen:=drop_nil h;have U: ¬((at_:Int)<(s.length:Int)):=Z;have CS:s.length=at_:=Z;have g:H.get H0.next=some (.row false 2 [[.int .i64 0,.int .i64 0]]):=p.get (J.ca _ _)
  have rc:=J.aX g;obtain⟨dr,H',hg,ia,qn,s9,Ee⟩:=GI ax p Z ⟨0,[],0,s.length⟩;have ff:=G6 H.next ⟨0,[],0,s.length⟩
  simp only[Tok.v] at ff;simp-implicitDefEqProofs(disch:=try exact af) only[xh,rG,tP,vl,tQ,uM,reduceAdd,reduceLeDiff,reduceIte,aw,U,decide_false,VJ,ff,hg,kx];have g':H'.get H0.next=some (.row false 2 [[.int .i64 0,.int .i64 0]]):=by
   rw[Ee _ rc ?_];exact g;intro e he;rcases ax with⟨rfl,_⟩|⟨l,rfl,az,_⟩
   ·cases he
   ·cases he;simp only[J.b2] at az;omega
  have anQ:=J.aX g';have cp:cj (some (.agg [.int .i64 0,.int .i64 0])) (.agg [.int .i64 0,.int .i64 0])=true:=by simp[cj,I.beq,jR.beq]
  simp-implicitDefEqProofs(disch:=try exact af) only[rG,tP,vl,tQ,uM,reduceAdd,reduceLeDiff,reduceIte,aw,g',cp];have en:aR H0 H':=(aR.push _ _).trans qn;have ew:aR H0 (H'.set H0.next (.row false 2 [[.int .i64 0,.int .i64 0]])):=en.db (bN _) _;refine a_.2 ⟨dr,rfl,?_,ew⟩;rw[jo];simp only[rY];rw[CS] at ia;exact ia.tok.bo λl ro els e=>by
   rw[J.get_set_other];exact e;rintro rfl;rw[g'] at e;cases e
 |n+1,c::r,at_,m+1,T,v,H,h,bV,ax,p,aH,aU,hm=>by
  obtain⟨aI,bc,dq,eZ⟩:=drop_cons h;have U:((at_:Int)<(s.length:Int)):=Z;have g:H.get H0.next=some (.row false 2 [[.int .i64 0,.int .i64 0]]):=p.get (J.ca _ _)
  have rc:=J.aX g;simp-implicitDefEqProofs(disch:=try exact af) only[xh,rG,tP,vl,tQ,uM,reduceAdd,reduceLeDiff,reduceIte,aw,U,decide_true];refine a6 (afh Z dq) ?_;rintro _ bm ⟨rfl,aJ⟩;refine⟨aJ.1,?_⟩;have g2:=aJ.get g;have H_:=J.aX g2;have ck:=ax.aK aJ;replace p:=p.trans aJ;rw[h,jo];cases bt:j6 (c::r) with
  |none=>
   simp only[uw];simp-implicitDefEqProofs(disch:=try exact af) only[rG,tP,vl,tQ,uM,reduceAdd,reduceLeDiff,reduceIte,aw,VI,beq_self_eq_true,g2,J.io];have cp:cj (some (.agg [.int .i64 1,.int .i64 at_])) (.agg [.int .i64 1,.int .i64 at_])=true:=by simp[cj,I.beq,jR.beq]
   refine a_.2 ⟨.ap,rfl,.inl ⟨rfl,rfl⟩,?_⟩;exact(((aR.push _ _).trans p).db (bN _) _).bX _
  |some q=>
   obtain⟨k,t,z,b⟩:=q;obtain⟨df,cU⟩:=KA bt;have MY:((b:Int)==0)=false:=by simp;omega
   simp only[uw];simp only[List.length_cons] at cU aU hm;obtain⟨dr,H',hg,ia,qn,s9,Ee⟩:=GI (ck.aK (aR.push bm (.row false 4 [Tok.cells ⟨k,t,z,at_⟩]))) (p.bX _) Z ⟨k,t,z,at_⟩;have ff:=G6 (bm.next+1) ⟨k,t,z,at_⟩;simp only[Tok.v] at ff;simp only[Tok.cells,J.b2] at hg s9;simp only[Tok.cells] at ff;have cp: ∀wy:J,cj (some (.agg [.int .i64 k,.str t,.int .i64 z,.int .i64 at_])) (.agg [.int .i64 k,.str t,.int .i64 z,.int .i64 at_])=true:=λ_=>by simp[cj,I.beq,jR.beq]
   simp-implicitDefEqProofs(disch:=try exact af) only[rG,tP,vl,tQ,uM,reduceAdd,reduceLeDiff,reduceIte,aw,MY,ff,hg,kx,si];have mW:s.drop (at_+b)=(c::r).drop b:=by rw[<-List.drop_drop,h]
   have r8:=wK ((c::r).drop b) false;simp only[List.length_drop,List.length_cons] at r8;refine lB (PJ Z (at_:=at_+b) Z) ?_;rw[mW];simp only[tP];have L_:at_+b+eh false ((c::r).drop b)<=s.length:=Z;have aT:=Se aM N n (s.drop (at_+b+eh false ((c::r).drop b))) (at_+b+eh false ((c::r).drop b)) m (T++[⟨k,t,z,at_⟩]) dr H' rfl L_ ia qn (by simp;omega) (by simp;omega) (by simp;omega);refine aT.mono ?_;rintro w nF ⟨ak,cD,cu,eH⟩;have M3:s.drop (at_+b+eh false ((c::r).drop b))=((c::r).drop b).drop (eh false ((c::r).drop b)):=by rw[<-List.drop_drop,mW]
   rw[M3] at cD cu;have pn:rY (T++[⟨k,t,z,at_⟩]) (jo n (((c::r).drop b).drop (eh false ((c::r).drop b))) (at_+b+eh false ((c::r).drop b)))=rY T (match jo n (((c::r).drop b).drop (eh false ((c::r).drop b))) (at_+b+eh false ((c::r).drop b)) with
     | .inl e=> .inl e
     | .inr l=> .inr (⟨k,t,z,at_⟩::l)):=by
    cases jo n (((c::r).drop b).drop (eh false ((c::r).drop b))) (at_+b+eh false ((c::r).drop b)) with
    |inl e=>rfl
    |inr l=>simp[rY]
   rw[pn] at cD cu;exact⟨ak,cD,cu,eH⟩
theorem aaq{H:J}(s:bl):W (aq P ao 24 [.str s] H) (GH H (hL s)):=by
 refine cP (λ_=>akW (s.length+1)) ?_;by_cases aG:(6000:Int)<(s.length:Int)
 ·have wa:6000<s.length:=Z;simp-implicitDefEqProofs(disch:=try exact af) only[rG,tP,vl,tQ,uM,reduceAdd,reduceLeDiff,reduceIte,aw,aG,decide_true];refine a_.2 ⟨.ap,by simp[hL,wa],.inl ⟨rfl,by simp[hL,wa]⟩,aR.push _ _⟩
 ·have wa: ¬6000<s.length:=Z;simp-implicitDefEqProofs(disch:=try exact af) only[rG,tP,tQ,uM,reduceAdd,reduceLeDiff,reduceIte,aw,aG,decide_false];refine lB (PJ (s:=s) Z (at_:=0) Z) ?_;simp only[List.drop_zero,Nat.zero_add,tQ];have r8:=wK s false;refine(Se (H0:=H) Z (s.length+1) (s.length+1) (s.drop (eh false s)) (eh false s) (s.length+1) [] .ap _ rfl r8 (.inl ⟨rfl,rfl⟩) (.refl _) (by simp) (by simp;omega) (by simp;omega)).mono ?_;rintro v H' ⟨ak,cD,cu,eH⟩;have pn:rY [] (jo (s.length+1) (s.drop (eh false s)) (eh false s))=hL s:=by
   simp only[hL,if_neg wa,Cx];cases jo (s.length+1) (s.drop (eh false s)) (eh false s)<;>rfl
  rw[pn] at cD cu;exact⟨ak,cD,cu,eH⟩
end
section
set_option maxRecDepth 100000
noncomputable section
def I1(G:av)(Y:I)(H:J):O:=
 aO H (G 114 [] H) λay U=>
 aO U (G 113 [ay,Y] U) λbb aa=>
 some (bb,aa)
theorem ajT(G:av)(N:Nat)(Y:I)(H:J):bn Tryz.f97 G N (cB [Y]) H=I1 G Y H:=by
 refine cL (A:=bn Tryz.f97 G N) (aL _) ?_;delta I1;kernel_rfl
theorem alX(N:Nat){Y:I}{H:J}{r:I×J}(h:I1 (aq P ao) Y H=some r):aq P ao 97 [Y] H=some r:=
 cQ ad Tryz.func97 ad ad ad ((ajT (aq P ao) N Y H).trans h)
def Ea(G:av)(bE Y b1:I)(am:J):O:=
 aD bE true am (bh (h1 P 9 b1 (.int .i64 0))) λcb aB=>
 aD bE true aB (λq=>fk aB (G 68 [cb] aB) q) λb6 aG=>
 ab (cX bE (some b6) (some (.bool false))) λbT=>
 aD bT true aG (di Y) λbG aP=>
 aD bT true aP (λq=>fk aP (G 95 [bG,(.func (.func 96) [] [])] aP) q) λcc bq=>
 aD bT true bq (di Y) λcK bJ=>
 aD bT true bJ (λq=>iu (dF P .empty .len [9] [cK]) (dF P bJ .len [9] [cK]) q) λcM co=>
 aD bT true co (bh (aW P .eql 3 false cc cM)) λcA ds=>
 ab (cX bT (some cA) (some (.bool false))) λcx=>
 aD cx true ds (di Y) λcH dV=>
 aD cx true dV (λq=>fk dV (G 97 [cH] dV) q) λc1 eN=>
 aD cx true eN (bh (eY .not c1)) λdn fI=>
 ab (cX cx (some dn) (some (.bool false))) λdt=>
 some (dt,fI)
def Dg(G:av)(Y:I)(H:J):O:=
 ab (aW P .neq 9 true Y (.str [])) λba=>
 aD ba true H (di Y) λbu U=>
 aD ba true U (λq=>iu (dF P .empty .len [9] [bu]) (dF P U .len [9] [bu]) q) λbx aa=>
 aD ba true aa (bh (aW P .leq 3 true bx (.int .i64 8))) λbS ae=>
 ab (cX ba (some bS) (some (.bool false))) λbE=>
 aD bE true ae (di Y) (Ea G bE Y)
theorem ajU(G:av)(N:Nat)(Y:I)(H:J):bn Tryz.f98 G N (cB [Y]) H=Dg G Y H:=by
 refine cL (A:=bn Tryz.f98 G N) (aL _) ?_;delta Dg Ea;kernel_rfl
theorem alY(N:Nat){Y:I}{H:J}{r:I×J}(h:Dg (aq P ao) Y H=some r):aq P ao 98 [Y] H=some r:=
 cQ ad Tryz.func98 ad ad ad ((ajU (aq P ao) N Y H).trans h)
def zx(G:av)(N:Nat)(ai:I)(H:J):O:=
 some (ai,H)
theorem ad2(G:av)(N:Nat): ∀R H,cw P G N (Code.snd (Code.snd (c6 Tryz.f46))) (bY Tryz.f46) [] (bY Tryz.f46) R H=zx G N (R 1) H:=by
 refine dj (aL _) λR H=> ?_
 delta zx;kernel_rfl
def D9(G:av)(N:Nat)(bD:I->I->J->O)(Y ai:I)(H:J):O:=
 bg P .len [9] [Y] H λbS=>
 ab (aW P .lss 3 false ai bS) λbE=>
 bO (some bE) (ab (h1 P 9 Y ai) λbT=>
 aO H (G 66 [(.str [32,9,10,13]),bT] H) λbW U=>
 ab (aW P .geq 3 true bW (.int .i64 0)) λbG=>
 bO (some bG) (ab (aW P .add 3 true ai (.int .i64 1)) λcK=>
 bD Y cK U) (ab (kj P 9 Y (some ai) none none) λcz=>
 aO U (G 67 [cz,(.str [47,47])] U) λcH aa=>
 bO (some cH) (ab (kj P 9 Y (some ai) none none) λdt=>
 aO aa (G 66 [dt,(.int .u8 10)] aa) λdc ae=>
 ab (aW P .lss 3 true dc (.int .i64 0)) λdJ=>
 bO (some dJ) (bg P .len [9] [Y] ae λeC=>
 some (eC,ae)) (ab (aW P .add 3 false ai dc) λfh=>
 bD Y fh ae)) (some (ai,aa)))) (zx G N ai H)
def xj(G:av)(N:Nat):Nat->I->I->J->O
 |0,_,_,_=>none
 |n+1,Y,ai,H=>D9 G N (xj G N n) Y ai H
theorem ad1(G:av)(N:Nat)(bD:I->I->J->O): ∀R H,cw P G N (Code.fst (Code.fst (Code.fst (Code.snd (c6 Tryz.f46))))) (λR H=>bD (R 0) (R 1) H) [(0,(λR H=>zx G N (R 1) H))] (bY Tryz.f46) R H=D9 G N bD (R 0) (R 1) H:=by
 refine dj (aL _) λR H=> ?_
 delta D9;generalize zx G N=a1;revert a1;refine id ?_;intro a1;kernel_rfl
def Dc(G:av)(N:Nat)(Y ai:I)(H:J):O:=
 xj G N N Y ai H
theorem ajb(G:av)(N:Nat)(Y:I)(ai:I)(H:J):bn Tryz.f46 G N (cB [Y,ai]) H=Dc G N Y ai H:=by
 refine cL (A:=bn Tryz.f46 G N) ((bk ad ((bk ad (ad2 G N) ((fy ad ((gg (k:=λm R H=>xj G N m (R 0) (R 1) H) ad (λR H=>ad) (λm=>ad1 G N (xj G N m)))))))) (aL _))) ?_;delta Dc;generalize xj G N N=a1;revert a1;refine id ?_;intro a1;kernel_rfl
theorem ale(N:Nat){Y ai:I}{H:J}{r:I×J}(h:Dc (aq P ao) N Y ai H=some r):aq P ao 46 [Y,ai] H=some r:=
 cQ ad Tryz.func46 ad ad ad ((ajb (aq P ao) N Y ai H).trans h)
def xk(G:av)(N:Nat)(an:I)(H:J):O:=
 a7 H (aQ P H 57 an (.agg [(.int .i64 0),(.str []),(.int .i64 0),(.int .i64 0)])) λU=>
 ab (aj P U 57 an) λr=>
 some (.tuple [r,(.int .i64 0)],U)
theorem ad4(G:av)(N:Nat): ∀R H,cw P G N (Code.snd (Code.snd (Code.snd (c6 Tryz.f47)))) (bY Tryz.f47) [] (bY Tryz.f47) R H=xk G N (R 2) H:=by
 refine dj (aL _) λR H=> ?_
 delta xk;kernel_rfl
def B2(G:av)(N:Nat)(bD:I->I->I->I->I->J->O)(Y an:I)(cz cH c1:I)(H:J):O:=
 ab (aW P .lss 3 false c1 cH) λdn=>
 bO (some dn) (ab (dS P 48 cz c1) λdt=>
 ab (aj P H 9 dt) λdc=>
 aO H (G 67 [Y,dc] H) λcF U=>
 bO (some cF) (ab (cO P 57 [(0,(.int .i64 4)),(1,dc)]) λdy=>
 bg P .len [9] [dc] U λfh=>
 a7 U (aQ P U 57 an dy) λaa=>
 ab (aj P aa 57 an) λr=>
 some (.tuple [r,fh],aa)) (ab (aW P .add 3 true c1 (.int .i64 1)) λej=>
 bD Y an cz cH ej U)) (xk G N an H)
def xl(G:av)(N:Nat):Nat->I->I->I->I->I->J->O
 |0,_,_,_,_,_,_=>none
 |n+1,Y,an,cz,cH,c1,H=>B2 G N (xl G N n) Y an cz cH c1 H
theorem ad3(G:av)(N:Nat)(bD:I->I->I->I->I->J->O): ∀R H,cw P G N (Code.fst (Code.fst (Code.snd (Code.fst (Code.snd (Code.snd (c6 Tryz.f47))))))) (λR H=>bD (R 0) (R 2) (R 22) (R 23) (R 24) H) [(1,(λR H=>xk G N (R 2) H))] (bY Tryz.f47) R H=B2 G N bD (R 0) (R 2) (R 22) (R 23) (R 24) H:=by
 refine dj (aL _) λR H=> ?_
 delta B2;generalize xk G N=a1;revert a1;refine id ?_;intro a1;kernel_rfl
def Dd(G:av)(N:Nat)(Y:I)(H:J):O:=
 cy H [(.int .i64 0),(.str []),(.int .i64 0),(.int .i64 0)] λan U=>
 ab (h1 P 9 Y (.int .i64 0)) λbS=>
 aO U (G 68 [bS] U) λbE aa=>
 bO (some bE) (aO aa (G 69 [Y] aa) λb1 ae=>
 ab (gT b1 0) λcb=>
 ab (gT b1 1) λb6=>
 a7 ae (aQ P ae 57 an cb) λam=>
 ab (aj P am 57 an) λr=>
 some (.tuple [r,b6],am)) (ab (h1 P 9 Y (.int .i64 0)) λbG=>
 aO aa (G 70 [bG] aa) λcc ae=>
 bO (some cc) (aO ae (G 71 [Y] ae) λcM am=>
 ab (gT cM 0) λcA=>
 ab (gT cM 1) λcx=>
 a7 am (aQ P am 57 an cA) λaB=>
 ab (aj P aB 57 an) λr=>
 some (.tuple [r,cx],aB)) (aO ae (G 72 [] ae) λcz am=>
 bg P .len [48] [cz] am λcH=>
 xl G N N Y an cz cH (.int .i64 0) am))
theorem ajc(G:av)(N:Nat)(Y:I)(H:J):bn Tryz.f47 G N (cB [Y]) H=Dd G N Y H:=by
 refine cL (A:=bn Tryz.f47 G N) ((bk ad ((bk ad ((bk ad (ad4 G N) ((bk ad ((fy ad ((gg (k:=λm R H=>xl G N m (R 0) (R 2) (R 22) (R 23) (R 24) H) ad (λR H=>ad) (λm=>ad3 G N (xl G N m)))))) (aL _))))) (aL _))) (aL _))) ?_;delta Dd;generalize xl G N N=a1;revert a1;refine id ?_;intro a1;kernel_rfl
theorem alf(N:Nat){Y:I}{H:J}{r:I×J}(h:Dd (aq P ao) N Y H=some r):aq P ao 47 [Y] H=some r:=
 cQ ad Tryz.func47 ad ad ad ((ajc (aq P ao) N Y H).trans h)
def HQ(G:av)(Y ai:I)(H:J):O:=
 aO H (G 129 [Y,ai] H) λbx U=>
 ab (aW P .geq 3 true bx (.int .i64 0)) λbS=>
 some (bS,U)
theorem agk(G:av)(N:Nat)(Y:I)(ai:I)(H:J):bn Tryz.f113 G N (cB [Y,ai]) H=HQ G Y ai H:=by
 refine cL (A:=bn Tryz.f113 G N) (aL _) ?_;delta HQ;kernel_rfl
theorem ahS(N:Nat){Y ai:I}{H:J}{r:I×J}(h:HQ (aq P ao) Y ai H=some r):aq P ao 113 [Y,ai] H=some r:=
 cQ ad Tryz.func113 ad ad ad ((agk (aq P ao) N Y ai H).trans h)
def HR(G:av)(H:J):O:=
 aO H (G 100 [(.str [114,101,99,111,114,100,32,103,108,111,98,97,108,32,102,117,110,99,32,118,97,114,32,108,101,116,32,105,102,32,101,108,115,101,32,119,104,105,108,101,32,114,101,116,117,114,110,32,112,114,105,110,116,32,110,117,108,108,32,110,101,119,32,108,101,110,32,114,101,97,100,32,116,114,117,101,32,102,97,108,115,101,32,105,110,116,32,98,111,111,108])] H) λai U=>
 some (ai,U)
theorem agl(G:av)(N:Nat)(H:J):bn Tryz.f114 G N (cB []) H=HR G H:=by
 refine cL (A:=bn Tryz.f114 G N) (aL _) ?_;delta HR;kernel_rfl
theorem ahT(N:Nat){H:J}{r:I×J}(h:HR (aq P ao) H=some r):aq P ao 114 [] H=some r:=
 cQ ad Tryz.func114 ad ad ad ((agl (aq P ao) N H).trans h)
def IS(G:av)(Y:I)(H:J):O:=
 ab (aW P .geq 5 true Y (.int .u8 97)) λba=>
 aD ba true H (di Y) λbu U=>
 aD ba true U (bh (aW P .leq 5 true bu (.int .u8 122))) λbx aa=>
 ab (cX ba (some bx) (some (.bool false))) λbS=>
 aD bS false aa (di Y) λcq ae=>
 aD bS false ae (bh (aW P .geq 5 true cq (.int .u8 65))) λb1 am=>
 aD bS false am (di b1) λcb aB=>
 aD cb true aB (di Y) λb6 aG=>
 aD cb true aG (bh (aW P .leq 5 true b6 (.int .u8 90))) λbT aP=>
 aD bS false aP (bh (cX cb (some bT) (some (.bool false)))) λbW bq=>
 ab (cX bS (some (.bool true)) (some bW)) λbG=>
 some (bG,bq)
theorem ajv(G:av)(N:Nat)(Y:I)(H:J):bn Tryz.f68 G N (cB [Y]) H=IS G Y H:=by
 refine cL (A:=bn Tryz.f68 G N) (aL _) ?_;delta IS;kernel_rfl
theorem alz(N:Nat){Y:I}{H:J}{r:I×J}(h:IS (aq P ao) Y H=some r):aq P ao 68 [Y] H=some r:=
 cQ ad Tryz.func68 ad ad ad ((ajv (aq P ao) N Y H).trans h)
def xr(G:av)(N:Nat)(bb:I)(H:J):O:=
 some (bb,H)
theorem aeC(G:av)(N:Nat): ∀R H,cw P G N (Code.snd (Code.snd (Code.snd (c6 Tryz.f95)))) (bY Tryz.f95) [] (bY Tryz.f95) R H=xr G N (R 5) H:=by
 refine dj (aL _) λR H=> ?_
 delta xr;kernel_rfl
def D_(G:av)(N:Nat)(bD:I->I->I->J->O)(Y ai bb:I)(H:J):O:=
 bg P .len [9] [Y] H λbS=>
 ab (aW P .lss 3 false bb bS) λbE=>
 aD bE true H (di ai) λb1 U=>
 aD bE true U (di Y) λcb aa=>
 aD bE true aa (di bb) λb6 ae=>
 aD bE true ae (bh (h1 P 9 cb b6)) λbT am=>
 aD bE true am (λq=>(By b1 [bT]).bind λp=>fk am (G p.1 p.2 am) q) λbW aB=>
 ab (cX bE (some bW) (some (.bool false))) λbG=>
 bO (some bG) (ab (aW P .add 3 true bb (.int .i64 1)) λcK=>
 bD Y ai cK aB) (xr G N bb aB)
def xt(G:av)(N:Nat):Nat->I->I->I->J->O
 |0,_,_,_,_=>none
 |n+1,Y,ai,bb,H=>D_ G N (xt G N n) Y ai bb H
theorem aeB(G:av)(N:Nat)(bD:I->I->I->J->O): ∀R H,cw P G N (Code.fst (Code.fst (Code.fst (Code.snd (Code.snd (c6 Tryz.f95)))))) (λR H=>bD (R 0) (R 1) (R 5) H) [(0,(λR H=>xr G N (R 5) H))] (bY Tryz.f95) R H=D_ G N bD (R 0) (R 1) (R 5) H:=by
 refine dj (aL _) λR H=> ?_
 delta D_;generalize xr G N=a1;revert a1;refine id ?_;intro a1;kernel_rfl
def Df(G:av)(N:Nat)(Y ai:I)(H:J):O:=
 xt G N N Y ai (.int .i64 0) H
theorem ajR(G:av)(N:Nat)(Y:I)(ai:I)(H:J):bn Tryz.f95 G N (cB [Y,ai]) H=Df G N Y ai H:=by
 refine cL (A:=bn Tryz.f95 G N) ((bk ad ((bk ad ((bk ad (aeC G N) ((fy ad ((gg (k:=λm R H=>xt G N m (R 0) (R 1) (R 5) H) ad (λR H=>ad) (λm=>aeB G N (xt G N m)))))))) (aL _))) (aL _))) ?_;delta Df;generalize xt G N N=a1;revert a1;refine id ?_;intro a1;kernel_rfl
theorem alV(N:Nat){Y ai:I}{H:J}{r:I×J}(h:Df (aq P ao) N Y ai H=some r):aq P ao 95 [Y,ai] H=some r:=
 cQ ad Tryz.func95 ad ad ad ((ajR (aq P ao) N Y ai H).trans h)
def I0(G:av)(Y:I)(H:J):O:=
 aO H (G 68 [Y] H) λba U=>
 aD ba false U (di Y) λbu aa=>
 aD ba false aa (λq=>fk aa (G 70 [bu] aa) q) λbx ae=>
 ab (cX ba (some (.bool true)) (some bx)) λbS=>
 some (bS,ae)
theorem ajS(G:av)(N:Nat)(Y:I)(H:J):bn Tryz.f96 G N (cB [Y]) H=I0 G Y H:=by
 refine cL (A:=bn Tryz.f96 G N) (aL _) ?_;delta I0;kernel_rfl
theorem alW(N:Nat){Y:I}{H:J}{r:I×J}(h:I0 (aq P ao) Y H=some r):aq P ao 96 [Y] H=some r:=
 cQ ad Tryz.func96 ad ad ad ((ajS (aq P ao) N Y H).trans h)
def IR(G:av)(Y ai:I)(H:J):O:=
 aO H (G 94 [Y,ai] H) λbx U=>
 some (bx,U)
theorem aju(G:av)(N:Nat)(Y:I)(ai:I)(H:J):bn Tryz.f67 G N (cB [Y,ai]) H=IR G Y ai H:=by
 refine cL (A:=bn Tryz.f67 G N) (aL _) ?_;delta IR;kernel_rfl
theorem aly(N:Nat){Y ai:I}{H:J}{r:I×J}(h:IR (aq P ao) Y ai H=some r):aq P ao 67 [Y,ai] H=some r:=
 cQ ad Tryz.func67 ad ad ad ((aju (aq P ao) N Y ai H).trans h)
def IT(G:av)(Y:I)(H:J):O:=
 cy H [(.int .i64 0),(.str []),(.int .i64 0),(.int .i64 0)] λan U=>
 aO U (G 95 [Y,(.func (.func 96) [] [])] U) λbx aa=>
 ab (kj P 9 Y none (some bx) none) λcq=>
 aO aa (G 97 [cq] aa) λb6 ae=>
 bO (some b6) (ab (cO P 57 [(0,(.int .i64 3)),(1,cq)]) λbW=>
 a7 ae (aQ P ae 57 an bW) λam=>
 ab (aj P am 57 an) λr=>
 some (.tuple [r,bx],am)) (aO ae (G 98 [cq] ae) λcM am=>
 bO (some cM) (ab (cO P 57 [(0,(.int .i64 1)),(1,cq)]) λcx=>
 a7 am (aQ P am 57 an cx) λaB=>
 ab (aj P aB 57 an) λr=>
 some (.tuple [r,bx],aB)) (a7 am (aQ P am 57 an (.agg [(.int .i64 0),(.str []),(.int .i64 0),(.int .i64 0)])) λaB=>
 ab (aj P aB 57 an) λr=>
 some (.tuple [r,(.int .i64 0)],aB)))
theorem ajw(G:av)(N:Nat)(Y:I)(H:J):bn Tryz.f69 G N (cB [Y]) H=IT G Y H:=by
 refine cL (A:=bn Tryz.f69 G N) (aL _) ?_;delta IT;kernel_rfl
theorem alA(N:Nat){Y:I}{H:J}{r:I×J}(h:IT (aq P ao) Y H=some r):aq P ao 69 [Y] H=some r:=
 cQ ad Tryz.func69 ad ad ad ((ajw (aq P ao) N Y H).trans h)
def IU(G:av)(Y:I)(H:J):O:=
 ab (aW P .geq 5 true Y (.int .u8 48)) λba=>
 aD ba true H (di Y) λbu U=>
 aD ba true U (bh (aW P .leq 5 true bu (.int .u8 57))) λbx aa=>
 ab (cX ba (some bx) (some (.bool false))) λbS=>
 some (bS,aa)
theorem ajx(G:av)(N:Nat)(Y:I)(H:J):bn Tryz.f70 G N (cB [Y]) H=IU G Y H:=by
 refine cL (A:=bn Tryz.f70 G N) (aL _) ?_;delta IU;kernel_rfl
theorem alB(N:Nat){Y:I}{H:J}{r:I×J}(h:IU (aq P ao) Y H=some r):aq P ao 70 [Y] H=some r:=
 cQ ad Tryz.func70 ad ad ad ((ajx (aq P ao) N Y H).trans h)
def IV(G:av)(Y:I)(H:J):O:=
 cy H [(.int .i64 0),(.str []),(.int .i64 0),(.int .i64 0)] λan U=>
 aO U (G 95 [Y,(.func (.func 70) [] [])] U) λbS aa=>
 ab (kj P 9 Y none (some bS) none) λcb=>
 aO aa (G 99 [cb] aa) λb6 ae=>
 ab (gT b6 0) λbT=>
 ab (gT b6 1) λbW=>
 ab (aW P .neq 126 true bW I.nilIface) λcc=>
 aD cc false ae (di bS) λcM am=>
 aD cc false am (bh (aW P .gtr 3 true cM (.int .i64 1))) λcA aB=>
 aD cc false aB (di cA) λcx aG=>
 aD cx true aG (di Y) λcz aP=>
 aD cx true aP (bh (h1 P 9 cz (.int .i64 0))) λcH bq=>
 aD cx true bq (bh (aW P .eql 5 true cH (.int .u8 48))) λc1 bJ=>
 aD cc false bJ (bh (cX cx (some c1) (some (.bool false)))) λdn co=>
 ab (cX cc (some (.bool true)) (some dn)) λdt=>
 aD dt false co (di bS) λdT ds=>
 aD dt false ds (di Y) λdJ dV=>
 aD dt false dV (λq=>iu (dF P .empty .len [9] [dJ]) (dF P dV .len [9] [dJ]) q) λcF eN=>
 aD dt false eN (bh (aW P .lss 3 false dT cF)) λeC fI=>
 aD dt false fI (di eC) λdy f0=>
 aD dy true f0 (di Y) λei hk=>
 aD dy true hk (di bS) λfh iv=>
 aD dy true iv (bh (h1 P 9 ei fh)) λej hZ=>
 aD dy true hZ (λq=>fk hZ (G 68 [ej] hZ) q) λdW mv=>
 aD dt false mv (bh (cX dy (some dW) (some (.bool false)))) λef jq=>
 ab (cX dt (some (.bool true)) (some ef)) λfo=>
 bO (some fo) (a7 jq (aQ P jq 57 an (.agg [(.int .i64 0),(.str []),(.int .i64 0),(.int .i64 0)])) λja=>
 ab (aj P ja 57 an) λr=>
 some (.tuple [r,(.int .i64 0)],ja)) (ab (cO P 57 [(0,(.int .i64 2)),(2,bT)]) λfU=>
 a7 jq (aQ P jq 57 an fU) λja=>
 ab (aj P ja 57 an) λr=>
 some (.tuple [r,bS],ja))
theorem ajy(G:av)(N:Nat)(Y:I)(H:J):bn Tryz.f71 G N (cB [Y]) H=IV G Y H:=by
 refine cL (A:=bn Tryz.f71 G N) (aL _) ?_;delta IV;kernel_rfl
theorem alC(N:Nat){Y:I}{H:J}{r:I×J}(h:IV (aq P ao) Y H=some r):aq P ao 71 [Y] H=some r:=
 cQ ad Tryz.func71 ad ad ad ((ajy (aq P ao) N Y H).trans h)
def IW(G:av)(H:J):O:=
 aO H (G 100 [(.str [60,61,32,61,61,32,33,61,32,38,38,32,124,124,32,123,32,125,32,40,32,41,32,91,32,93,32,59,32,58,32,44,32,46,32,61,32,43,32,45,32,42,32,47,32,37,32,60,32,33])] H) λai U=>
 some (ai,U)
theorem ajz(G:av)(N:Nat)(H:J):bn Tryz.f72 G N (cB []) H=IW G H:=by
 refine cL (A:=bn Tryz.f72 G N) (aL _) ?_;delta IW;kernel_rfl
theorem alD(N:Nat){H:J}{r:I×J}(h:IW (aq P ao) H=some r):aq P ao 72 [] H=some r:=
 cQ ad Tryz.func72 ad ad ad ((ajz (aq P ao) N H).trans h)
def u_(G:av)(N:Nat)(H:J):O:=
 some ((.int .i64 (-1)),H)
theorem aca(G:av)(N:Nat): ∀R H,cw P G N (Code.snd (Code.snd (c6 Tryz.f129))) (bY Tryz.f129) [] (bY Tryz.f129) R H=u_ G N H:=by
 refine dj (aL _) λR H=> ?_
 delta u_;kernel_rfl
def y0(G:av)(N:Nat)(bD:I->I->I->I->J->O)(Y ai:I)(bx bS:I)(H:J):O:=
 ab (aW P .lss 3 false bS bx) λbE=>
 bO (some bE) (ab (dS P 48 Y bS) λbT=>
 ab (aj P H 9 bT) λbW=>
 ab (aW P .eql 9 false ai bW) λbG=>
 bO (some bG) (some (bS,H)) (ab (aW P .add 3 true bS (.int .i64 1)) λcK=>
 bD Y ai bx cK H)) (u_ G N H)
def w4(G:av)(N:Nat):Nat->I->I->I->I->J->O
 |0,_,_,_,_,_=>none
 |n+1,Y,ai,bx,bS,H=>y0 G N (w4 G N n) Y ai bx bS H
theorem ab_(G:av)(N:Nat)(bD:I->I->I->I->J->O): ∀R H,cw P G N (Code.fst (Code.fst (Code.snd (Code.fst (Code.snd (c6 Tryz.f129)))))) (λR H=>bD (R 0) (R 1) (R 7) (R 8) H) [(0,(λR H=>u_ G N H))] (bY Tryz.f129) R H=y0 G N bD (R 0) (R 1) (R 7) (R 8) H:=by
 refine dj (aL _) λR H=> ?_
 delta y0;generalize u_ G N=a1;revert a1;refine id ?_;intro a1;kernel_rfl
def x0(G:av)(N:Nat)(Y ai:I)(H:J):O:=
 bg P .len [48] [Y] H λbx=>
 w4 G N N Y ai bx (.int .i64 0) H
theorem agw(G:av)(N:Nat)(Y:I)(ai:I)(H:J):bn Tryz.f129 G N (cB [Y,ai]) H=x0 G N Y ai H:=by
 refine cL (A:=bn Tryz.f129 G N) ((bk ad ((bk ad (aca G N) ((bk ad ((fy ad ((gg (k:=λm R H=>w4 G N m (R 0) (R 1) (R 7) (R 8) H) ad (λR H=>ad) (λm=>ab_ G N (w4 G N m)))))) (aL _))))) (aL _))) ?_;delta x0;generalize w4 G N N=a1;revert a1;refine id ?_;intro a1;kernel_rfl
theorem ah4(N:Nat){Y ai:I}{H:J}{r:I×J}(h:x0 (aq P ao) N Y ai H=some r):aq P ao 129 [Y,ai] H=some r:=
 cQ ad Tryz.func129 ad ad ad ((agw (aq P ao) N Y ai H).trans h)
def FH(G:av)(Y ai:I)(H:J):O:=
 bg P .len [9] [Y] H λbu=>
 bg P .len [9] [ai] H λbS=>
 ab (aW P .geq 3 false bu bS) λbE=>
 aD bE true H (di Y) λb1 U=>
 aD bE true U (di ai) λcb aa=>
 aD bE true aa (λq=>iu (dF P .empty .len [9] [cb]) (dF P aa .len [9] [cb]) q) λb6 ae=>
 aD bE true ae (bh (kj P 9 b1 none (some b6) none)) λbT am=>
 aD bE true am (di ai) λbW aB=>
 aD bE true aB (bh (aW P .eql 9 false bT bW)) λbG aG=>
 ab (cX bE (some bG) (some (.bool false))) λcc=>
 some (cc,aG)
theorem ajQ(G:av)(N:Nat)(Y:I)(ai:I)(H:J):bn Tryz.f94 G N (cB [Y,ai]) H=FH G Y ai H:=by
 refine cL (A:=bn Tryz.f94 G N) (aL _) ?_;delta FH;kernel_rfl
theorem alU(N:Nat){Y ai:I}{H:J}{r:I×J}(h:FH (aq P ao) Y ai H=some r):aq P ao 94 [Y,ai] H=some r:=
 cQ ad Tryz.func94 ad ad ad ((ajQ (aq P ao) N Y ai H).trans h)
def rF(G:av)(N:Nat)(Y ay ba:I)(H:J):O:=
 bg P .len [9] [Y] H λgb=>
 ab (cO P 57 [(0,(.int .i64 0)),(3,gb)]) λgM=>
 dv H (dK P (H).next 50 1 [(0,gM)]) λe4 U=>
 aO U (fQ P U [50,50] ba e4) λgR aa=>
 a7 aa (aQ P aa 29 ay (.agg [(.int .i64 0),(.int .i64 0)])) λae=>
 ab (aj P ae 29 ay) λr=>
 some (.tuple [gR,r],ae)
theorem adz(G:av)(N:Nat): ∀R H,cw P G N (Code.snd (Code.snd (Code.snd (Code.snd (c6 Tryz.f16))))) (bY Tryz.f16) [] (bY Tryz.f16) R H=rF G N (R 0) (R 3) (R 4) H:=by
 refine dj (aL _) λR H=> ?_
 delta rF;kernel_rfl
def vj(G:av)(N:Nat)(bD:I->I->I->I->J->O)(Y ay:I)(ba bb:I)(H:J):O:=
 bg P .len [9] [Y] H λbG=>
 ab (aW P .lss 3 false bb bG) λcc=>
 bO (some cc) (ab (kj P 9 Y (some bb) none none) λcx=>
 aO H (G 47 [cx] H) λcz U=>
 ab (gT cz 0) λcH=>
 ab (gT cz 1) λc1=>
 cy U [(.int .i64 0),(.str []),(.int .i64 0),(.int .i64 0)] λbu aa=>
 a7 aa (aQ P aa 57 bu cH) λae=>
 ab (aW P .eql 3 true c1 (.int .i64 0)) λdt=>
 bO (some dt) (ab (cO P 29 [(0,(.int .i64 1)),(1,bb)]) λdT=>
 a7 ae (aQ P ae 29 ay dT) λam=>
 ab (aj P am 29 ay) λr=>
 some (.tuple [I.ap,r],am)) (ab (aE P 57 bu 3) λcF=>
 a7 ae (aQ P ae 3 cF bb) λam=>
 ab (aj P am 57 bu) λdy=>
 dv am (dK P (am).next 50 1 [(0,dy)]) λei aB=>
 aO aB (fQ P aB [50,50] ba ei) λfh aG=>
 ab (aW P .add 3 false bb c1) λfo=>
 aO aG (G 46 [Y,fo] aG) λfv aP=>
 bD Y ay fh fv aP)) (rF G N Y ay ba H)
def xg(G:av)(N:Nat):Nat->I->I->I->I->J->O
 |0,_,_,_,_,_=>none
 |n+1,Y,ay,ba,bb,H=>vj G N (xg G N n) Y ay ba bb H
theorem ady(G:av)(N:Nat)(bD:I->I->I->I->J->O): ∀R H,cw P G N (Code.fst (Code.fst (Code.snd (Code.fst (Code.snd (Code.snd (Code.snd (c6 Tryz.f16)))))))) (λR H=>bD (R 0) (R 3) (R 4) (R 5) H) [(0,(λR H=>rF G N (R 0) (R 3) (R 4) H))] (bY Tryz.f16) R H=vj G N bD (R 0) (R 3) (R 4) (R 5) H:=by
 refine dj (aL _) λR H=> ?_
 delta vj;generalize rF G N=a1;revert a1;refine id ?_;intro a1;kernel_rfl
def uL(G:av)(N:Nat)(Y:I)(H:J):O:=
 cy H [(.int .i64 0),(.int .i64 0)] λay U=>
 bg P .len [9] [Y] U λbE=>
 ab (aW P .gtr 3 true bE (.int .i64 6000)) λcq=>
 bO (some cq) (a7 U (aQ P U 29 ay (.agg [(.int .i64 4),(.int .i64 0)])) λaa=>
 ab (aj P aa 29 ay) λr=>
 some (.tuple [I.ap,r],aa)) (aO U (G 46 [Y,(.int .i64 0)] U) λb6 aa=>
 xg G N N Y ay I.ap b6 aa)
theorem aiL(G:av)(N:Nat)(Y:I)(H:J):bn Tryz.f16 G N (cB [Y]) H=uL G N Y H:=by
 refine cL (A:=bn Tryz.f16 G N) ((bk ad ((bk ad ((bk ad ((bk ad (adz G N) ((bk ad ((fy ad ((gg (k:=λm R H=>xg G N m (R 0) (R 3) (R 4) (R 5) H) ad (λR H=>ad) (λm=>ady G N (xg G N m)))))) (aL _))))) (aL _))) (aL _))) (aL _))) ?_;delta uL;generalize xg G N N=a1;revert a1;refine id ?_;intro a1;kernel_rfl
theorem akO(N:Nat){Y:I}{H:J}{r:I×J}(h:uL (aq P ao) N Y H=some r):aq P ao 16 [Y] H=some r:=
 cQ ad Tryz.func16 ad ad ad ((aiL (aq P ao) N Y H).trans h)
end
end
end Go.Proofs.YtghmbpmaafnodaaGreatDoor
namespace Go.Proofs.YtghmbpmaafnodaaGreatDoor.jz
open Go.gd
open Nat (reduceAdd reduceLeDiff)
structure kr(H:J):Prop where
 I2:H.get 0=some (.row true 1 sZ)
 err:H.get 1=some (.row true 1 xW)
theorem kr.aK{H H':J}(h:kr H)(p:aR H H'):kr H':=⟨p.get h.I2,p.get h.err⟩
theorem Do{H:J}(c:Int):W (aq P ao 68 [.int .u8 c] H) λv H'=>v= .bool (lf c)/\H'=H:=by
 refine cP (λ_=>alz 0) ?_;unfold lf;cases U:decide (97<=c)<;>cases aa:decide (c<=122)<;>cases ae:decide (65<=c)<;>cases am:decide (c<=90)<;>
  (simp-implicitDefEqProofs(disch:=try exact af) only[IS,bg,bL,ee,U,aa,ae,am];exact a_.2 ⟨rfl,rfl⟩)
theorem JA{H:J}(c:Int):W (aq P ao 70 [.int .u8 c] H) λv H'=>v= .bool (oo c)/\H'=H:=by
 refine cP (λ_=>alB 0) ?_;unfold oo;cases U:decide (48<=c)<;>cases aa:decide (c<=57)<;>
  (simp-implicitDefEqProofs(disch:=try exact af) only[IU,bg,bL,ee,U,aa];exact a_.2 ⟨rfl,rfl⟩)
theorem aaJ{H:J}(c:Int):W (aq P ao 96 [.int .u8 c] H) λv H'=>v= .bool (lf c||oo c)/\H'=H:=by
 refine cP (λ_=>alW 0) ?_;rw[I0];refine lB (Do c) ?_;cases h:lf c with
 |true=>
  simp-implicitDefEqProofs(disch:=try exact af) only[bg,bL];exact a_.2 ⟨rfl,rfl⟩
 |false=>
  simp-implicitDefEqProofs(disch:=try exact af) only[bg,bL];refine rA (JA c) ?_;simp-implicitDefEqProofs(disch:=try exact af) only[bg,bL];exact a_.2 ⟨rfl,rfl⟩
def G8(d:Bool)(c:UInt8):Bool:=gK c||(!d&&hf c)
def Nt(d:Bool):Nat:=if d then 70 else 96
theorem rm{H:J}(d:Bool)(c:UInt8):W (aq P ao (Nt d) [.int .u8 c.toNat] H) λv H'=>v= .bool (G8 d c)/\H'=H:=by
 cases d with
 |true=>
  refine(JA (H:=H) (c.toNat:Int)).mono ?_;rintro v H' ⟨rfl,rfl⟩;exact⟨by simp[G8,gK],rfl⟩
 |false=>
  refine(aaJ (H:=H) (c.toNat:Int)).mono ?_;rintro v H' ⟨rfl,rfl⟩;exact⟨by simp[G8,gK,hf,Bool.or_comm],rfl⟩
theorem aaB(g:Nat)(cl:List I):By (.func (.func g) [] []) cl=some (g,cl):=by simp[By]
theorem QL{H:J}{s:bl}(aM:s.length<=1000000000000000000)(d:Bool)(N:Nat): ∀(rest:bl) (n m:Nat),s.drop n=rest->n<=s.length->rest.length<m->
  W (xt (aq P ao) N m (.str s) (.func (.func (Nt d)) [] []) (.int .i64 n) H) λv H'=>v= .int .i64 ((n+runN d rest:Nat):Int)/\H'=H
 |_,_,0,_,_,hm=>Z
 |[],n,m+1,h,aU,hm=>by
  have:=drop_nil h;have U: ¬((n:Int)<(s.length:Int)):=Z;simp-implicitDefEqProofs(disch:=try exact af) only[xt,xr,D_,Df,reduceAdd,reduceLeDiff,reduceIte,aw,U,decide_false];exact a_.2 ⟨by simp[runN],rfl⟩
 |c::r,n,m+1,h,aU,hm=>by
  obtain⟨aI,bc,dq,eZ⟩:=drop_cons h;have U:((n:Int)<(s.length:Int)):=Z;have hp:=pe aI;simp-implicitDefEqProofs(disch:=try exact af) only[xt,xr,D_,Df,reduceAdd,reduceLeDiff,reduceIte,aw,U,decide_true,hp,aaB];refine rA (rm d c) ?_;cases ax:G8 d c with
  |true=>
   simp-implicitDefEqProofs(disch:=try exact af) only[bg,bL,ee,mC];refine(QL (H:=H) aM d N r (n+1) m bc Z (by simp at hm;omega)).mono ?_;rintro v H' ⟨rfl,rfl⟩;have e:runN d (c::r)=runN d r+1:=by
    have:(gK c||(!d&&hf c))=true:=ax;rw[runN,this];rfl
   have cN:n+1+runN d r=n+runN d (c::r):=by rw[e];omega
   exact⟨by rw[cN],rfl⟩
  |false=>
   simp-implicitDefEqProofs(disch:=try exact af) only[bg,bL,xr];have e:runN d (c::r)=0:=by
    have:(gK c||(!d&&hf c))=false:=ax;rw[runN,this];rfl
   exact a_.2 ⟨by rw[e];rfl,rfl⟩
theorem Kh{H:J}{s:bl}(aM:s.length<=1000000000000000000)(d:Bool):W (aq P ao 95 [.str s,.func (.func (Nt d)) [] []] H) λv H'=>v= .int .i64 (runN d s:Nat)/\H'=H:=by
 refine cP (λ_=>alV (s.length+1)) ?_;rw[Df];have:=QL (H:=H) aM d (s.length+1) s 0 (s.length+1) rfl Z Z;simpa using this
theorem O9{H:J}(aZ:kr H)(s:bl)(l:List bl)(aM:s.length<4294967281)(bV: ∀(j:Nat) b,s[j]? =some b->b.toNat<128)(al:Lib.fields s=l):aq P ao 100 [.str s] H=some (.aN H.next 0 l.length 1 (some l.length),H.push (.row false 1 (l.map λx=>[.str x]))):=by
 subst al;refine GJ ?_;exact if_pos ⟨aM,bV,aZ.I2⟩
def vF:List bl:=oV++[[123],[125],[40],[41],[91],[93],[59],[58],[44],[46],[61],[43],[45],[42],[47],[37],[60],[33]]
theorem Rf{s:bl}(h:s.all (λb=>decide (b.toNat<128))=true): ∀(j:Nat) b,s[j]? =some b->b.toNat<128:=λj b bH=>by
 have:=List.all_eq_true.1 h b (List.mem_of_getElem? bH);simpa using this
theorem aaR{H:J}(aZ:kr H):W (aq P ao 114 [] H) λv H'=>v= .aN H.next 0 sL.length 1 (some sL.length)/\H'=H.push (.row false 1 (sL.map λy=>[I.str y])):=by
 refine cP (λ_=>ahT 0) ?_;rw[HR,O9 aZ _ sL cm (Rf (by decide+kernel)) (by decide+kernel)];simp only[aO,J.b2,Nat.le_succ,decide_true,bC];exact a_.2 ⟨rfl,rfl⟩
theorem aaQ{H:J}(aZ:kr H):W (aq P ao 72 [] H) λv H'=>v= .aN H.next 0 vF.length 1 (some vF.length)/\H'=H.push (.row false 1 (vF.map λy=>[I.str y])):=by
 refine cP (λ_=>alD 0) ?_;rw[IW,O9 aZ _ vF cm (Rf (by decide+kernel)) (by decide+kernel)];simp only[aO,J.b2,Nat.le_succ,decide_true,bC];exact a_.2 ⟨rfl,rfl⟩
def z_(x:bl):List bl->Nat->Int
 |[],_=> -1
 |y::dX,n=>bif x==y then n else z_ x dX (n+1)
theorem R0(x:bl): ∀(l:List bl) (n:Nat),decide (0<=z_ x l n)=lh x l
 |[],n=>rfl
 |y::dX,n=>by
  have aS:(y==x)=(x==y):=by
   cases h:x==y with
   |true=>rw[eq_of_beq h];simp
   |false=>
    have:x≠y:=by simpa using h
    simpa using λe:y=x=>this e.symm
  rw[z_,lh,aS];cases h:x==y with
  |true=>
   simp only[bC,Bool.true_or,decide_eq_true_eq];omega
  |false=>
   simp only[bj,Bool.false_or];exact R0 x dX (n+1)
theorem Pw{H:J}{x:bl}{l:Nat}(N:Nat)(all:List bl)(hS:all.length<=1000)(aZ:H.get l=some (.row false 1 (all.map λy=>[I.str y]))): ∀(rest pre:List bl),all=pre++rest-> ∀(m:Nat),rest.length<m->
  W (w4 (aq P ao) N m (.aN l 0 all.length 1 (some all.length)) (.str x) (.int .i64 all.length) (.int .i64 pre.length) H) λv H'=>v= .int .i64 (z_ x rest pre.length)/\H'=H
 |_,_,_,0,hm=>Z
 |[],pre,bw,m+1,hm=>by
  have U: ¬((pre.length:Int)<(all.length:Int)):=by rw[bw];simp
  simp-implicitDefEqProofs(disch:=try exact af) only[w4,u_,y0,x0,reduceAdd,reduceLeDiff,reduceIte,aw,U,decide_false];exact a_.2 ⟨rfl,rfl⟩
 |y::dX,pre,bw,m+1,hm=>by
  have U:((pre.length:Int)<(all.length:Int)):=by rw[bw];simp;omega
  have aY:(0:Int)<=(pre.length:Int):=Z;have aI:((pre.length:Int)).toNat=pre.length:=Z;have hle:pre.length<all.length:=Z;have he:(all.map λy=>[I.str y])[pre.length]? =some [I.str y]:=by rw[bw];simp
  have hw:((pre++[y]).length:Int)=((pre.length+1:Nat):Int):=by simp
  simp-implicitDefEqProofs(disch:=try exact af) only[w4,u_,y0,x0,reduceAdd,reduceLeDiff,reduceIte,aw,U,decide_true,aZ,aI,he];cases aS:x==y with
  |true=>
   simp-implicitDefEqProofs(disch:=try exact af) only[u_,y0,x0,bg,bL];exact a_.2 ⟨by simp[z_,aS],rfl⟩
  |false=>
   have aT:=Pw (H:=H) (x:=x) N all hS aZ dX (pre++[y]) (by simp[bw]) m (by simp at hm;omega);rw[hw] at aT;simp-implicitDefEqProofs(disch:=try exact af) only[u_,y0,x0,bg,bL,ee,mC];refine aT.mono ?_;rintro v H' ⟨rfl,rfl⟩;exact⟨by simp[z_,aS],rfl⟩
theorem ZR{H:J}{x:bl}{l:Nat}(all:List bl)(hS:all.length<=1000)(aZ:H.get l=some (.row false 1 (all.map λy=>[I.str y]))):
  W (aq P ao 113 [.aN l 0 all.length 1 (some all.length),.str x] H) λv H'=>v= .bool (lh x all)/\H'=H:=by
 refine cP (λ_=>ahS 0) ?_;rw[HQ];have be:W (aq P ao 129 [.aN l 0 all.length 1 (some all.length),.str x] H) λv H'=>v= .int .i64 (z_ x all 0)/\H'=H:=by
  refine cP (λ_=>ah4 (all.length+1)) ?_;simp-implicitDefEqProofs(disch:=try exact af) only[x0,reduceAdd,reduceLeDiff,reduceIte,aw];exact Pw (H:=H) (x:=x) (all.length+1) all hS aZ all [] rfl (all.length+1) Z
 refine lB be ?_;have:=R0 x all 0;simp-implicitDefEqProofs(disch:=try exact af) only[bg,bL,ee,this];exact a_.2 ⟨rfl,rfl⟩
theorem PW{H:J}(aZ:kr H)(x:bl):W (aq P ao 97 [.str x] H) λv H'=>v= .bool (rV x)/\aR H H':=by
 refine cP (λ_=>alX 0) ?_;rw[I1];refine a6 (aaR aZ) ?_;rintro _ _ ⟨rfl,rfl⟩;refine⟨(aR.push _ _).1,?_⟩;refine lB (ZR sL cm (J.ca _ _)) ?_;exact a_.2 ⟨rfl,aR.push _ _⟩
theorem Rb: ∀(x:bl),vL x=(runN false x==x.length)
 |[]=>rfl
 |c::r=>by
  have aT:=Rb r;rw[vL,runN,aT,Bool.or_comm (hf c)];have bd:(gK c||(!false&&hf c))=(gK c||hf c):=by simp
  rw[bd];cases h:gK c||hf c with
  |true=>simp
  |false=>simp
theorem abE{H:J}(aZ:kr H){x:bl}(ag:x.length<=1000000000000000000):W (aq P ao 98 [.str x] H) λv H'=>v= .bool (iG x)/\aR H H':=by
 refine cP (λ_=>alY 0) ?_;unfold iG;cases x with
 |nil=>
  have U:(([]:List UInt8)==[])=true:=rfl;simp-implicitDefEqProofs(disch:=try exact af) only[Dg,Ea,reduceAdd,reduceLeDiff,reduceIte,aw,U,Bool.not_true];exact a_.2 ⟨by simp,.refl _⟩
 |cons c r=>
  have U:((c::r)==([]:List UInt8))=false:=rfl;have cD:decide (1<=(c::r).length)=true:=by simp
  have cn:=Hh (s:=c::r) (b:=c) rfl;rw[cD];by_cases aa:(c::r).length<=8
  ·have hq:(((c::r).length:Nat):Int)<=8:=Z;generalize cV:c::r=y at*;simp-implicitDefEqProofs(disch:=try exact af) only[Dg,Ea,reduceAdd,reduceLeDiff,reduceIte,aw,U,Bool.not_false,hq,decide_true,cn];refine rA (Do _) ?_;have b0:hf (y.headD 0)=lf (c.toNat:Int):=by rw[<-cV];rfl
   rw[b0];cases ae:lf (c.toNat:Int) with
   |false=>
    simp-implicitDefEqProofs(disch:=try exact af) only[bg,bL];exact a_.2 ⟨by simp,.refl _⟩
   |true=>
    simp-implicitDefEqProofs(disch:=try exact af) only[bg,bL];refine rA (Kh ag false) ?_;rw[Rb];cases am:(runN false y==y.length) with
    |false=>
     have ll:(((runN false y:Nat):Int)==(y.length:Int))=false:=by
      have:runN false y≠y.length:=by simpa using am
      simp;omega
     simp-implicitDefEqProofs(disch:=try exact af) only[reduceAdd,reduceLeDiff,reduceIte,aw,ll];exact a_.2 ⟨by simp,.refl _⟩
    |true=>
     have ll:(((runN false y:Nat):Int)==(y.length:Int))=true:=by
      have:runN false y=y.length:=by simpa using am
      simp;omega
     simp-implicitDefEqProofs(disch:=try exact af) only[reduceAdd,reduceLeDiff,reduceIte,aw,ll];refine gP (PW aZ y) ?_;rintro _ bm ⟨rfl,aJ⟩;refine⟨aJ.1,?_⟩;simp-implicitDefEqProofs(disch:=try exact af) only[bg,bL];exact a_.2 ⟨by simp[aa],aJ⟩
  ·have hq: ¬((((c::r).length:Nat):Int)<=8):=Z;generalize cV:c::r=y at*;simp-implicitDefEqProofs(disch:=try exact af) only[Dg,Ea,reduceAdd,reduceLeDiff,reduceIte,aw,U,Bool.not_false,hq,decide_false];exact a_.2 ⟨by simp[aa],.refl _⟩
def preB(s p:bl):Bool:=decide (p.length<=s.length)&&s.take p.length==p
theorem Om{H:J}(s p:bl):W (aq P ao 67 [.str s,.str p] H) λv H'=>v= .bool (preB s p)/\H'=H:=by
 refine cP (λ_=>aly 0) ?_;rw[IR];have be:W (aq P ao 94 [.str s,.str p] H) λv H'=>v= .bool (preB s p)/\H'=H:=by
  refine cP (λ_=>alU 0) ?_;by_cases h:p.length<=s.length
  ·have U:((p.length:Int)<=(s.length:Int)):=Z;have ff:kj P 9 (.str s) none (some (.int .i64 (p.length:Int))) none=some (.str (s.take p.length)):=by
    have aI:hM (some (.int .i64 (p.length:Int))) s.length s.length=some p.length:=by simp[hM];omega
    simp only[kj,HX,aI];simp[hM]
   simp-implicitDefEqProofs(disch:=try exact af) only[FH,reduceAdd,reduceLeDiff,reduceIte,aw,U,decide_true,ff];exact a_.2 ⟨by simp[preB,h],rfl⟩
  ·have U: ¬((p.length:Int)<=(s.length:Int)):=Z;simp-implicitDefEqProofs(disch:=try exact af) only[FH,reduceAdd,reduceLeDiff,reduceIte,aw,U,decide_false];exact a_.2 ⟨by simp[preB,h],rfl⟩
 refine lB be ?_;exact a_.2 ⟨rfl,rfl⟩
end Go.Proofs.YtghmbpmaafnodaaGreatDoor.jz
