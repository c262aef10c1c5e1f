/-
  Texts of one proof, laid together: Qa Qb Qc Qd Qe Qf Qg Qh Qi Qj Qk.
-/
import Derived.Test.YtmhhnnklfcbgfaaGreatMK
set_option linter.unusedVariables false
set_option linter.unusedSimpArgs false
set_option linter.defProp false
open Option renaming some→A,none→Z
open Bool renaming true→J,false→I
open Go.cv.af renaming int→D,bool→C
open Go.IntKind renaming i64→F
namespace Go.Proofs.YtmhhnnklfcbgfaaGreat
open Go.cv
open Nat (reduceAdd reduceLeDiff)
section
open Go.a2
set_option maxRecDepth 2000
theorem wrap_u64{x:Nat}(h:x<2^64):IntKind.u64.wrap (x:Int)=(x:Int):=by
 grind[IntKind.wrap,IntKind.bits,IntKind.signed]
def PO(x:Nat):BitVec.ofInt 64 (x:Int)=BitVec.ofNat 64 x:=by
 grind
def GD(t:Nat)(z:Bool){x y:Nat}(aF:x<2^64)(a:y<2^64):bx P .or t z (D .u64 x) (D .u64 y)=A (D .u64 ((x|||y:Nat):Int)):=by
 have e:(BitVec.ofInt 64 (x:Int)|||BitVec.ofInt 64 (y:Int)).toNat=x|||y:=by
  grind
 show A (af.int .u64 (IntKind.u64.wrap (((BitVec.ofInt 64 (x:Int)|||BitVec.ofInt 64 (y:Int)).toNat:Nat):Int)))=_;rw[e,wrap_u64 aa]
def Ku(t:Nat)(z:Bool){x:Nat}(aF:x<2^64):bx P .and t z (D .u64 x) (D .u64 1)=A (D .u64 ((x%2:Nat):Int)):=by
 have e:(BitVec.ofInt 64 (x:Int)&&&BitVec.ofInt 64 (1:Int)).toNat=x%2:=by
  grind
 show A (af.int .u64 (IntKind.u64.wrap (((BitVec.ofInt 64 (x:Int)&&&BitVec.ofInt 64 (1:Int)).toNat:Nat):Int)))=_;grind[wrap_u64]
def SR(t:Nat)(z:Bool)(x:Nat):bx P .shr t z (D .u64 x) (D .u64 1)=A (D .u64 ((x/2:Nat):Int)):=by
 show A (af.int .u64 ((x:Int).fdiv (2^1)))=_;grind
def ahL(t:Nat)(z:Bool){b:Nat}(a:b<64):bx P .shl t z (D .u64 1) (D F b)=A (D .u64 ((1<<<b:Nat):Int)):=by
 have ah:¬((b:Int)<0):=aa;show(if(b:Int)<0 then Z else A (af.int .u64 (IntKind.u64.wrap (1*2^(min ((b:Int).toNat) 64)))))=_;rw[if_neg ah,Int.toNat_natCast,Nat.min_eq_left aa];have ai:(1*2^b:Int)=((1<<<b:Nat):Int):=by grind[Nat.shiftLeft_eq]
 rw[ai,wrap_u64];rw[Nat.shiftLeft_eq,Nat.one_mul];exact Nat.pow_lt_pow_right aa a
def qE(x y:Nat):Nat:=(BitVec.ofNat 64 x&&& ~~~BitVec.ofNat 64 y).toNat
theorem Jz(x y:Nat):qE x y<2^64:=(BitVec.ofNat 64 x&&& ~~~BitVec.ofNat 64 y).isLt
def Va(t:Nat)(z:Bool)(x y:Nat):bx P .andNot t z (D .u64 x) (D .u64 y)=A (D .u64 ((qE x y:Nat):Int)):=by
 show A (af.int .u64 (IntKind.u64.wrap (((BitVec.ofInt 64 (x:Int)&&& ~~~BitVec.ofInt 64 (y:Int)).toNat:Nat):Int)))=_;rw[PO,PO];exact congrArg (λz=>A (af.int .u64 z)) (wrap_u64 aa)
theorem K7(x y i:Nat)(aP:i<64):(qE x y).testBit i=(x.testBit i&& !y.testBit i):=by
 grind[qE,BitVec.testBit_toNat,BitVec.getLsbD_ofNat]
def V6(x y:Nat):Go.a2.bits (qE x y)=(List.range 64).filter λt=>x.testBit t&& !y.testBit t:=by
 grind[Go.a2.bits,List.filter_congr,K7]
def adB{x y:Nat}(aF:x<2^64)(a:y<2^64):y|||qE x y=y|||x:=by
 apply Nat.eq_of_testBit_eq;intro i;rw[Nat.testBit_or,Nat.testBit_or];by_cases aP:i<64
 ·grind[K7]
 ·have ah:∀{z:Nat},z<2^64->z.testBit i=false:=λh=>Nat.testBit_lt_two_pow (Nat.lt_of_lt_of_le h (Nat.pow_le_pow_right aa aa))
  grind[Jz]
section
variable {H:ae}{ok:Nat->Prop}
theorem OF{x:Nat}(aF:x<2^64){B:Nat}{N:Nat}:∀(j k m:Nat) (H:ae) (v:af),k+j=64->j<m->aZ aN B ba H (aO ((List.range k).filter (x.testBit ·))) v->B<=H.next->
  W (rN (aK P aD) N m (D .u64 ((x>>>k:Nat):Int)) v (D F k) H) λr H'=>aZ aN B ba H' (aO (Go.a2.bits x)) r/\cg B H H'
 |_,_,0,_,_,_,hm,_,_=>aa
 |0,k,m+1,H,v,t,_,ar,f=>by
  have e:k=64:=aa;subst e;have s:x>>>64=0:=aa;have b:((((0:Nat):Int)) != 0)=false:=rfl;rw[s];refine cu @rN.eq_2 @tT.eq_1 @wX.eq_1 b ?_;exact aE.2 ⟨ar,.refl _ _⟩
 |j+1,k,m+1,H,v,t,hm,ar,f=>by
  have h:x>>>k<2^64:=Nat.lt_of_le_of_lt (by rw[Nat.shiftRight_eq_div_pow];exact Nat.div_le_self _ _) aF;have aT:=e8 (show k<=1000000000 by omega);have l:x>>>k/2=x>>>(k+1):=by rw[Nat.shiftRight_succ]
  have au:(List.range (k+1)).filter (x.testBit ·)=(List.range k).filter (x.testBit ·)++(if x.testBit k then[k]else[]):=by
   grind[List.range_succ]
  have G:x.testBit k=decide (x>>>k%2=1):=by
   grind[Nat.shiftRight_eq_div_pow]
  have on:=OF aF (B:=B) (N:=N) j (k+1) m;by_cases K:x>>>k=0
  ·have b:((((x>>>k:Nat):Int)) != 0)=false:=al;refine cu @rN.eq_2 @tT.eq_1 @wX.eq_1 b ?_;have n:Go.a2.bits x=(List.range k).filter (x.testBit ·):=by
    unfold Go.a2.bits;have:List.range 64=List.range k++(List.range (64-k)).map (k+ ·):=by rw[<-List.range_add];congr 1;omega
    have nil:((List.range (64-k)).map (k+ ·)).filter (x.testBit ·)=[]:=by
     rw[List.filter_eq_nil_iff];intro i aP;simp only[List.mem_map,List.mem_range]at aP;obtain⟨q,aH,rfl⟩:=aP;have:(x>>>k).testBit q=false:=al;grind
    grind
   rw[n];exact aE.2 ⟨ar,.refl _ _⟩
  ·have b:((((x>>>k:Nat):Int)) != 0)=true:=al;cases g:x.testBit k with
   |false=>
    have c:((((x>>>k%2:Nat):Int))==1)=false:=by
     grind
    rw[au,g]at on;refine bb @rN.eq_2 @tT.eq_1 @HM.eq_1 b (λz0 d=>Ku z0 d h) (ag c (ag @SR (ag aT l))) ?_;grind
   |true=>
    have c:((((x>>>k%2:Nat):Int))==1)=true:=by
     grind
    rw[au,g]at on;have hlen:(aO ((List.range k).filter (x.testBit ·))).length<=999999999:=by
     grind[aO]
    obtain⟨z,H',u,w,y,L,M⟩:=ar.j4 (a:=(k:Int)) f hlen;have hle:(H.push (.row I 1 [[D F (k:Int)]])).next<=H'.next:=by simp;omega
    refine bb @rN.eq_2 @tT.eq_1 b (λz0 d=>Ku z0 d h) c (ag @c3 u) ?_;refine cu @HM.eq_1 @SR aT l ?_;refine(on H' z aa aa (by simpa [aO]using w) aa).mono ?_;rintro r E ⟨o,p⟩;exact⟨o,y.trans p⟩
theorem F4{x:Nat}(aF:x<2^64):W (aK P aD 183 [D .u64 x] H) λr H'=>aZ aN H.next ba H' (aO (Go.a2.bits x)) r/\aw H H':=by
 refine afC 65 ?_;have:=OF aF (B:=H.next) (N:=65) 64 0 65 H .aq aa aa (by grind[aO,aZ.nil]) aa;rw[Nat.shiftRight_zero]at this;refine bK @HL.eq_1 ?_;refine this.mono ?_;grind[cg.aC]
theorem D5(n m:Int):W (aK P aD 176 [D F n,D F m] H) λr H'=>r= C (decide (0<=n/\n<m))/\H'=H:=by
 refine afv 0 ?_;by_cases a:0<=n
 ·refine D6 @BQ.eq_1 a @decide_true ?_;grind[aE]
 ·refine To @BQ.eq_1 a @decide_false false_and ?_;grind[aE]
end
end
section
open Go.a2
set_option maxRecDepth 2000
section
variable {H:ae}{ok:Nat->Prop}
def mi{n m:Nat}(h:n<m):W (aK P aD 176 [D F n,D F m] H) λr H'=>r= C J/\H'=H:=by
 refine(D5 _ _).mono ?_;rintro r H' ⟨rfl,rfl⟩;exact⟨by rw[decide_eq_true];omega,rfl⟩
def ju(c:bt)(l:Nat):fl l (.agg (cZ c))=A (.ptr l 0 0,.row I 4 [cZ c]):=by
 have h:=mH l (cZ c) (by cases c<;>rfl);rw[h];cases c<;>rfl
def gq{c:bt}{L:Nat}{k a b f:Int}(h:H.get L=A (.row I 4 [cZ c]))(aA:cZ c=[D F k,D F a,D F b,D F f]):aJ P H 3 (.ptr L 0 0)=A (D F k)/\aJ P H 3 (.ptr L 0 1)=A (D F a)/\aJ P H 3 (.ptr L 0 2)=A (D F b)/\aJ P H 3 (.ptr L 0 3)=A (D F f):=by
 rw[aA]at h;exact kP h
def Ox{c:bt}{L:Nat}(h:H.get L=A (.row I 4 [cZ c])):aJ P H 56 (.ptr L 0 0)=A (.agg (cZ c)):=by
 rw[hA (n:=4) (i:=0) (c:=0) aG aG h rfl aa];cases c<;>rfl
theorem aih{n m:Nat}{c:bt}(hw:c.wf n m):W (aK P aD 179 [.agg (cZ c),D F n,D F m,D F 8] H) λr H'=>r= C J/\aw H H':=by
 refine afy 0 ?_;have e:=aw.push H (.row I 4 [cZ c]);have d:=ae.a1 H (.row I 4 [cZ c]);cases c with
 |base a b=>
  have l:=gq d rfl;simp-implicitDefEqProofs(disch:=try exact aY)only[rL,tS,qk,reduceAdd,reduceLeDiff,reduceIte,bB,ju,l,Int.reduceBEq];refine dK (mi hw.1) ?_;refine bK l ?_;refine hY (mi hw.2) ?_;refine bM ?_;grind[aE]
 |copy a b=>
  have l:=gq d rfl;simp-implicitDefEqProofs(disch:=try exact aY)only[rL,tS,qk,reduceAdd,reduceLeDiff,reduceIte,bB,ju,l,Int.reduceBEq];refine dK (mi hw.1) ?_;refine bK l ?_;refine hY (mi hw.2) ?_;refine bM ?_;grind[aE]
 |load a b f=>
  have l:=gq d rfl;simp-implicitDefEqProofs(disch:=try exact aY)only[rL,tS,qk,reduceAdd,reduceLeDiff,reduceIte,bB,ju,l,Int.reduceBEq];refine dK (mi hw.1) ?_;refine bK l ?_;refine hY (mi hw.2.1) ?_;refine bK l ?_;refine hY (mi (m:=8) hw.2.2) ?_;refine bM ?_;grind[aE]
 |store a b f=>
  have l:=gq d rfl;simp-implicitDefEqProofs(disch:=try exact aY)only[rL,tS,qk,reduceAdd,reduceLeDiff,reduceIte,bB,ju,l,Int.reduceBEq];refine dK (mi hw.1) ?_;refine bK l ?_;refine hY (mi hw.2.1) ?_;refine bK l ?_;refine hY (mi (m:=8) hw.2.2) ?_;refine bM ?_;grind[aE]
 |same a b=>
  have l:=gq d rfl;simp-implicitDefEqProofs(disch:=try exact aY)only[rL,tS,qk,reduceAdd,reduceLeDiff,reduceIte,bB,ju,l,Int.reduceBEq];refine dK (mi hw.1) ?_;refine bK l ?_;refine hY (mi hw.2) ?_;refine bM ?_;grind[aE]
structure og(H:ae)(zA B zC n m w:Nat):Prop where
 a:H.get zA=some (.row false 1 [[.int .i64 (n:Nat)]])
 b:H.get B=some (.row false 1 [[.int .i64 (m:Nat)]])
 c:H.get zC=some (.row false 1 [[.int .i64 (w:Nat)]])
theorem og.aC{H H':ae}{zA B zC n m w:Nat}(h:og H zA B zC n m w)(p:aw H H'):og H' zA B zC n m w:=⟨p.get h.a,p.get h.b,p.get h.c⟩
theorem iE{L:Nat}{n:Int}(h:H.get L=A (.row I 1 [[D F n]])):aJ P H 3 (.ptr L 0 0)=A (D F n):=kP h
def adV{zA B zC n m:Nat}(k:og H zA B zC n m 8){c:bt}(hw:c.wf n m):W (aK P aD 178 [.agg (cZ c),.ptr zA 0 0,.ptr B 0 0,.ptr zC 0 0] H) λr H'=>r= C I/\aw H H':=by
 refine afx 0 ?_;have d:=aw.push H (.row I 4 [cZ c]);have e:=ae.a1 H (.row I 4 [cZ c]);have bS:=k.aC d;refine bb @HG.eq_1 @ju (Ox e) (iE bS.a) (iE bS.b) (iE bS.c) ?_;refine bz (aih hw) λK p=> ?_
 refine bM ?_;exact aE.2 ⟨rfl,d.trans p⟩
theorem aI.zM{l:List bt}{v:af}(h:aI cU H ok l v){j:Int}{c:bt}(a:0<=j)(b:l[j.toNat]? =A c):∃p,ct P 53 v (D F j)=A p/\∀H',aw H H'->aJ P H' 56 p=A (.agg (cZ c)):=by
 obtain⟨p,cs,d,e,rfl⟩:=h.zo (K:=cU) iG Tu a b;grind
theorem NR{l:List bt}{v:af}{zA B zC n m:Nat}(hw:gy n m l)(e:l.length<=1000000000){N:Nat}:∀(j k q:Nat) (H:ae),k+j=l.length->j<q->aI cU H ok l v->og H zA B zC n m 8->
  W (xe (aK P aD) N q v (.func (.func 178) [] [.ptr zA 0 0,.ptr B 0 0,.ptr zC 0 0]) (D F l.length) (D F k) H) λr H'=>r= D F (-1)/\aw H H'
 |_,_,0,_,_,hm,_,_=>aa
 |0,k,q+1,H,f,_,ar,aA=>by
  have t:¬(k:Int)<(l.length:Int):=aa;refine bT @xe.eq_2 @Cf.eq_1 @H6.eq_1 ?_;grind[aE,aw.refl]
 |j+1,k,q+1,H,f,hm,ar,aA=>by
  have g:k<l.length:=aa;obtain⟨p,i,o⟩:=ar.zM (j:=(k:Int)) (c:=l[k]) aa al;have h:=hw _ (List.getElem_mem g);have on:=NR (zA:=zA) (B:=B) (zC:=zC) (v:=v) hw e (N:=N) j (k+1) q;refine bb @xe.eq_2 @Cf.eq_1 i (o _ (aw.refl _)) @qK.eq_1 @pB.eq_1 ?_;refine bz (adV aA h) λK a=> ?_
  refine bM ?_;refine(on K aa aa (ar.aC a) (aA.aC a)).mono ?_;rintro r s ⟨b,d⟩;exact⟨b,a.trans d⟩
theorem W_{l:List bt}{v:af}{zA B zC n m:Nat}(hw:gy n m l)(a:l.length<=1000000000)(ar:aI cU H ok l v)(aA:og H zA B zC n m 8):
  W (aK P aD 177 [v,.func (.func 178) [] [.ptr zA 0 0,.ptr B 0 0,.ptr zC 0 0]] H) λr H'=>r= C I/\aw H H':=by
 refine afw 0 ?_;have key:W (aK P aD 219 [v,.func (.func 178) [] [.ptr zA 0 0,.ptr B 0 0,.ptr zC 0 0]] H) λr H'=>r= D F (-1)/\aw H H':=by
  refine afS (l.length+1) ?_;refine bF @H5.eq_1 (ar.bf iG) ?_;exact NR hw a l.length 0 (l.length+1) H aa aa ar aA
 refine bK @HF.eq_1 ?_;refine bz key λK p=> ?_
 refine bM ?_;grind[aE]
end
end
section
open Go.a2
set_option maxRecDepth 2000
def dP(l:List Int):List (List af):=l.map λn=>[D F n]
theorem oA{l:List Int}{i:Nat}{n:Int}(h:l[i]? =A n):(dP l)[i]? =A [D F n]:=by simp[dP,h]
theorem lY(l:List Int):(dP l).length=l.length:=by simp[dP]
theorem EP(l:List Int)(i:Nat)(n:Int):(dP l).set i [D F n]=dP (l.set i n):=by simp[dP,List.map_set]
def O3(H:ae)(l i c:Nat)(ak:List af):jB P H (.iface 288 (.ptr l i c)) "Len" ak=(aJ P H 246 (.ptr l i c)).bind λu=>A (223,u::ak):=by
 simp only[jB];have h:nD P H (.iface 288 (.ptr l i c)) "Len" =(aJ P H 246 (.ptr l i c)).bind λu=>A (223,u):=aG
 grind
def Gf(H:ae)(l i c:Nat)(ak:List af):jB P H (.iface 288 (.ptr l i c)) "Less" ak=(aJ P H 246 (.ptr l i c)).bind λu=>A (281,u::ak):=by
 simp only[jB];have h:nD P H (.iface 288 (.ptr l i c)) "Less" =(aJ P H 246 (.ptr l i c)).bind λu=>A (281,u):=aG
 grind
def Gg(H:ae)(l i c:Nat)(ak:List af):jB P H (.iface 288 (.ptr l i c)) "Swap" ak=(aJ P H 246 (.ptr l i c)).bind λu=>A (282,u::ak):=by
 simp only[jB];have h:nD P H (.iface 288 (.ptr l i c)) "Swap" =(aJ P H 246 (.ptr l i c)).bind λu=>A (282,u):=aG
 grind
def acH(H:ae)(l i c:Nat)(ak:List af):jB P H (.iface 288 (.ptr l i c)) "Push" ak=A (284,.ptr l i c::ak):=by
 simp only[jB];have h:nD P H (.iface 288 (.ptr l i c)) "Push" =A (284,.ptr l i c):=aG;grind
def acG(H:ae)(l i c:Nat)(ak:List af):jB P H (.iface 288 (.ptr l i c)) "Pop" ak=A (283,.ptr l i c::ak):=by
 simp only[jB];have h:nD P H (.iface 288 (.ptr l i c)) "Pop" =A (283,.ptr l i c):=aG;grind
theorem m1:fj 246 3 1:=⟨aG,aG,⟨8,aG,b0⟩,⟨D F 0,aG,rfl,rfl⟩,b0⟩
section
variable {H:ae}
structure iw(H:ae)(M L:Nat)(cap:Option Nat)(aT:List Int)(rest:List (List af)):Prop where
 row:H.get L=some (.row false 1 (dP aT++rest))
 fE:aJ P H 246 (.ptr M 0 7)=some (.az L 0 aT.length 1 cap)
 ne:M≠L
 keep:∀b,aJ P (H.set L b) 246 (.ptr M 0 7)=some (.az L 0 aT.length 1 cap)
def iw.lt{M L:Nat}{cap:Option Nat}{aT:List Int}{rest:List (List af)}(h:iw H M L cap aT rest):L<H.next:=ae.bm h.row
theorem iw.set{M L:Nat}{cap:Option Nat}{aT wk':List Int}{rest:List (List af)}(h:iw H M L cap aT rest)(ar:wk'.length=aT.length):iw (H.set L (.row I 1 (dP wk'++rest))) M L cap wk' rest:=
 ⟨ae.cO h.lt,by rw[ar];exact h.keep _,h.ne,λb=>by rw[ae.set_set,ar];exact h.keep _⟩
theorem iw.at_{M L:Nat}{cap:Option Nat}{aT:List Int}{rest:List (List af)}(h:iw H M L cap aT rest){j:Nat}(a:j<aT.length):ct P 246 (.az L 0 aT.length 1 cap) (D F j)=A (.ptr L j 0)/\aJ P H 3 (.ptr L j 0)=A (D F aT[j]):=by
 refine⟨?_,?_⟩
 ·grind[nJ,m1]
 ·rw[eW (i:=j) (c:=0) qG h.row (by rw[List.getElem?_append_left (by grind[lY])];exact oA (n:=aT[j]) al)];rfl
theorem F2{M L:Nat}{cap:Option Nat}{aT:List Int}{rest:List (List af)}(h:iw H M L cap aT rest){i j:Nat}(aP:i<aT.length)(a:j<aT.length):W (aK P aD 281 [.az L 0 aT.length 1 cap,D F i,D F j] H) λr H'=>r= C (decide (aT[i]<aT[j]))/\H'=H:=by
 refine agm 0 ?_;refine bT @Ix.eq_1 (h.at_ aP) (h.at_ a) ?_;grind[aE]
def uF(l:List Int)(i j:Nat)(aP:i<l.length)(a:j<l.length):List Int:=(l.set i l[j]).set j l[i]
theorem se(l:List Int)(i j:Nat)(aP:i<l.length)(a:j<l.length):(uF l i j aP a).length=l.length:=by simp[uF]
def ajr(l:List Int)(i j:Nat)(aP:i<l.length)(a:j<l.length):(uF l i j aP a).Perm l:=List.set_set_perm aP a
theorem QH{M L:Nat}{cap:Option Nat}{aT:List Int}{rest:List (List af)}(h:iw H M L cap aT rest){i:Nat}(aP:i<aT.length)(n:Int):cz P H 3 (.ptr L i 0) (D F n)=A (H.set L (.row I 1 (dP (aT.set i n)++rest))):=by
 rw[fb D_ h.row (by rw[List.getElem?_append_left (by grind[lY])];exact oA (n:=aT[i]) al) rfl rfl aa,<-EP,List.set_append_left _ _ (by grind[lY])];rfl
theorem JB{M L:Nat}{cap:Option Nat}{aT:List Int}{rest:List (List af)}(h:iw H M L cap aT rest){i j:Nat}(aP:i<aT.length)(a:j<aT.length):W (aK P aD 282 [.az L 0 aT.length 1 cap,D F i,D F j] H) λr H'=>r= .tuple []/\H'=H.set L (.row I 1 (dP (uF aT i j aP a)++rest)):=by
 refine agn 0 ?_;have ah:=h.set (wk':=aT.set i aT[j]) aW;have b:=QH ah (i:=j) al aT[i];rw[ae.set_set]at b;refine dd @Iy.eq_1 (h.at_ aP) (h.at_ a) (QH h aP) b ?_;exact aE.2 ⟨rfl,rfl⟩
end
end
section
open Go.a2
set_option maxRecDepth 2000
section
variable {H:ae}
structure jN(H H':ae)(M L:Nat)(cap:Option Nat)(rest:List (List af))(aT wk':List Int):Prop where
 q:iw H' M L cap wk' rest
 perm:wk'.Perm aT
 next:H'.next=H.next
 get:∀k,k≠L->H'.get k=H.get k
theorem jN.refl{M L:Nat}{cap:Option Nat}{rest:List (List af)}{aT:List Int}(h:iw H M L cap aT rest):jN H H M L cap rest aT aT:=⟨h,.refl _,rfl,λ_ _=>rfl⟩
theorem jN.trans{H1 a:ae}{M L:Nat}{cap:Option Nat}{rest:List (List af)}{aT c d:List Int}(h:jN H H1 M L cap rest aT c)(k:jN H1 a M L cap rest c d):jN H a M L cap rest aT d:=
 ⟨k.q,k.perm.trans h.perm,k.next.trans h.next,λj b=>(k.get j b).trans (h.get j b)⟩
theorem jN.swap{M L:Nat}{cap:Option Nat}{rest:List (List af)}{aT:List Int}(h:iw H M L cap aT rest){i j:Nat}(aP:i<aT.length)(a:j<aT.length):jN H (H.set L (.row I 1 (dP (uF aT i j aP a)++rest))) M L cap rest aT (uF aT i j aP a):=
 ⟨h.set (se _ _ _ _ _),ajr _ _ _ _ _,rfl,(by grind[ae.b_])⟩
theorem TY{M L:Nat}{cap:Option Nat}{rest:List (List af)}{N:Nat}:∀(m j:Nat) (H:ae) (aT:List Int),j<m->j<aT.length->aT.length<=1000000000->iw H M L cap aT rest->W (xo (aK P aD) N m (.iface 288 (.ptr M 0 7)) (D F j) H) λr H'=>r= .tuple []/\∃wk',jN H H' M L cap rest aT wk'
 |0,_,_,_,hm,_,_,_=>aa
 |m+1,0,H,aT,_,a,e,h=>by
  have d:bx P .sub 3 J (D F ((0:Nat):Int)) (D F 1)=A (D F (-1)):=aG;have b:bx P .quo 3 J (D F (-1)) (D F 2)=A (D F 0):=aG;have c:bx P .eql 3 I (D F 0) (D F ((0:Nat):Int))=A (C J):=aG;simp only[xo,Cn,d,b,c,mr];refine bM ?_;exact aE.2 ⟨rfl,aT,.refl h⟩
 |m+1,k+1,H,aT,hm,a,e,h=>by
  have g:IntKind.i64.wrap (((k+1:Nat):Int)-1)=(k:Int):=by grind[wrap_i64]
  have b:bx P .quo 3 J (D F (k:Int)) (D F 2)=A (D F ((k/2:Nat):Int)):=by
   show(if(2:Int)=0 then Z else A (af.int F (IntKind.i64.wrap ((k:Int).tdiv 2))))=_;grind[wrap_i64]
  have c:(((k/2:Nat):Int)==((k+1:Nat):Int))=false:=al;have aP:k/2<aT.length:=aa;refine bb @xo.eq_2 @Cn.eq_1 g b c (ag @Gf h.fE) ?_;refine hY (F2 h a aP) ?_;cases l:decide (aT[k+1]<aT[k/2])with
  |false=>
   refine bM ?_;exact aE.2 ⟨rfl,aT,.refl h⟩
  |true=>
   refine bT @kg.eq_1 @Gg h.fE ?_;refine cB (JB h aP a) ?_;rintro _ H1 ⟨rfl,rfl⟩;refine⟨aW,?_⟩;have q:=jN.swap h aP a;refine(TY m (k/2) _ _ aa (by grind[se]) (by grind[se]) q.q).mono ?_;rintro r i ⟨rfl,wk',f⟩;exact⟨rfl,wk',q.trans f⟩
theorem akD{M L:Nat}{cap:Option Nat}{rest:List (List af)}{aT:List Int}(h:iw H M L cap aT rest){j:Nat}(b:j<aT.length)(a:aT.length<=1000000000):W (aK P aD 250 [.iface 288 (.ptr M 0 7),D F j] H) λr H'=>r= .tuple []/\∃wk',jN H H' M L cap rest aT wk':=by
 refine agc (j+1) ?_;refine bK @Iq.eq_1 ?_;grind[TY]
theorem L7(i0 i:Nat){N:Nat}:W (rX (aK P aD) N (D F i0) (D F i) H) λr H'=>(∃b,r= C b)/\H'=H:=by
 refine bK @rX.eq_1 ?_;grind[aE]
theorem L_{M L:Nat}{cap:Option Nat}{rest:List (List af)}{i0 n:Nat}{N:Nat}:∀(m i:Nat) (H:ae) (aT:List Int),n<i+m->n<=aT.length->aT.length<=500000000->iw H M L cap aT rest->i<=n->0<m->W (rY (aK P aD) N m (.iface 288 (.ptr M 0 7)) (D F i0) (D F n) (D F i) H) λr H'=>(∃b,r= C b)/\∃wk',jN H H' M L cap rest aT wk'
 |0,_,_,_,_,_,_,_,_,u=>aa
 |m+1,i,H,aT,hm,aL,v,h,x,_=>by
  have a:bx P .mul 3 J (D F 2) (D F i)=A (D F ((2*i:Nat):Int)):=by
   show A (af.int F (IntKind.i64.wrap (2*(i:Int))))=_;grind[wrap_i64]
  have e:=e8 (show 2*i<=1000000000 by omega);by_cases a6:n<=2*i+1
  ·have t:((n:Int)<=((2*i+1:Nat):Int)):=aa;refine cu @rY.eq_2 @xp.eq_1 a e ?_;refine(L7 i0 i).mono ?_;rintro r H' ⟨au,rfl⟩;exact⟨au,aT,.refl h⟩
  have f:=e8 (show 2*i+1<=1000000000 by omega);have go:∀j,i<j->j<n->W (xq (aK P aD) N (rY (aK P aD) N m) (.iface 288 (.ptr M 0 7)) (D F i0) (D F n) (D F i) (D F j) H) λr H'=>(∃b,r= C b)/\∃wk',jN H H' M L cap rest aT wk':=by
   intro j w y;have c:i<aT.length:=aa;have d:j<aT.length:=aa;refine cu @xq.eq_1 @kg.eq_1 @Gf h.fE ?_;refine dK (F2 h d c) ?_;cases o:decide (aT[j]<aT[i])with
   |false=>
    refine bM ?_;refine(L7 i0 i).mono ?_;rintro r H' ⟨au,rfl⟩;exact⟨au,aT,.refl h⟩
   |true=>
    refine bT @kg.eq_1 @Gg h.fE ?_;refine cB (JB h c d) ?_;rintro _ H1 ⟨rfl,rfl⟩;refine⟨aW,?_⟩;have q:=jN.swap h c d;refine(L_ m j _ _ aa (by grind[se]) (by grind[se]) q.q aa aa).mono ?_;rintro r s ⟨au,wk',p⟩;exact⟨au,wk',q.trans p⟩
  by_cases bo:2*i+1+1<n
  ·have g:(((2*i+1+1:Nat):Int)<(n:Int)):=aa;have k:2*i+1<aT.length:=aa;have l:2*i+1+1<aT.length:=aa;refine bb @rY.eq_2 @xp.eq_1 a e f (ag @Gf h.fE) ?_;refine hY (F2 h l k) ?_;cases o:decide (aT[2*i+1+1]<aT[2*i+1])with
   |false=>
    refine bM ?_;exact go _ aa aa
   |true=>
    refine bM ?_;exact go _ aa aa
  ·have g:¬(((2*i+1+1:Nat):Int)<(n:Int)):=aa;refine dd @rY.eq_2 @xp.eq_1 a e f ?_;exact go _ aa aa
end
end
section
open Go.a2
set_option maxRecDepth 2000
def dx:af->Option Nat
 | .az L _ _ _ _=>A L
 |_=>Z
section
variable {H:ae}
def Xr{M L:Nat}{cap:Option Nat}{rest:List (List af)}{aT:List Int}(h:iw H M L cap aT rest){n:Nat}(aL:n<=aT.length)(a:aT.length<=500000000):W (aK P aD 251 [.iface 288 (.ptr M 0 7),D F 0,D F n] H) λr H'=>(∃b,r= C b)/\∃wk',jN H H' M L cap rest aT wk':=by
 refine agd (n+1) ?_;refine bK @Ir.eq_1 ?_;exact L_ (i0:=0) (N:=n+1) (n+1) 0 H aT aa aL a h aa aa
theorem mh{M:Nat}{cs:List af}{v:af}(g:H.get M=A (.row I 9 [cs]))(b:v.one=J)(ar:cs.length=9):cz P H 246 (.ptr M 0 7) v=A (H.set M (.row I 9 [cs.set 7 v])):=by
 have a:=dn b;rw[fb (n:=1) aG g rfl al al b0,a];obtain⟨bu,a6,bd,bo,bO,b3,cm,dw,gp,rfl⟩:∃bu a6 bd bo bO b3 cm dw gp,cs=[bu,a6,bd,bo,bO,b3,cm,dw,gp]:=by
  match cs,ar with
  |[bu,a6,bd,bo,bO,b3,cm,dw,gp],_=>grind
 rfl
def rk{M:Nat}{cs:List af}{v:af}(g:H.get M=A (.row I 9 [cs]))(a:cs[7]? =A v):aJ P H 246 (.ptr M 0 7)=A v:=by
 rw[eW (i:=0) (c:=7) aG g rfl,a]
theorem aZ.p7{B M:Nat}{aT:List Int}{b6:af}{cs:List af}(h:aZ aN B ba H aT b6)(m:M<B)(bR:H.get M=A (.row I 9 [cs]))(a:cs[7]? =A b6)(n:aT≠[]):∃L cap rest,b6= .az L 0 aT.length 1 cap/\B<=L/\(cap=Z\/cap=A aT.length)/\iw H M L cap aT rest:=by
 rcases h.eS with⟨_,e⟩|⟨L,els,cap,rfl,_,g,hle,f,j⟩
 ·grind
 ·have d:=h.low L _ _ rfl;have e:els=dP aT++els.drop aT.length:=by
   apply List.ext_getElem?;intro i;by_cases aP:i<aT.length
   ·rw[List.getElem?_append_left (by grind[lY])];obtain⟨c,k,l⟩:=j i aT[i] al;rw[k,show c=[af.int F aT[i]]from l];grind[oA]
   grind[lY]
  refine⟨L,cap,els.drop aT.length,rfl,d,f,by rw[<-e];exact g,rk bR a,aa,λb=> ?_⟩;exact rk (by grind[ae.b_]) a
theorem iw.lc{B M L:Nat}{cap:Option Nat}{aT:List Int}{rest:List (List af)}(h:iw H M L cap aT rest)(b:B<=L)(aA:cap=Z\/cap=A aT.length):aZ aN B ba H aT (.az L 0 aT.length 1 cap):=
 ⟨.inr ⟨L,_,cap,rfl,trivial,h.row,by simp[lY],aA,λi a aP=>⟨[D F a],by grind[lY,oA],rfl⟩⟩,al⟩
structure so(B M:Nat)(cs:List af)(b6:af)(H H':ae)(wk':List Int)(wv':af):Prop where
 lc:aZ aN B ba H' wk' wv'
 Gq:kC aN wv'
 bR:H'.get M=some (.row false 9 [cs.set 7 wv'])
 next:H.next<=H'.next
 get:∀k,k<H.next->k≠M->dx b6≠some k->H'.get k=H.get k
 ir:∀L,dx wv'=some L->dx b6=some L\/H.next<=L
def aib(l:Nat)(n:Int):gu P l 246 1 [(0,D F n)]=A (.az l 0 1 1 (A 1),.row I 1 [[D F n]]):=ng m1 l rfl rfl rfl
def aZ.Vn{B:Nat}{l:List Int}{v:af}{a:Int}(h:aZ aN B ba H l v)(d:B<=H.next)(ar:l.length<=999999999):
  ∃b H',ej P (H.push (.row I 1 [[D F a]])) [246,246] v (.az H.next 0 1 1 (A 1))=A (b,H')/\aZ aN B ba H' (l++[a]) b/\cg B H H'/\H.next<H'.next/\(∀k,k<H.next->(∀L n c,v= .az L 0 n 1 c->k≠L)->H'.get k=H.get k)/\(b=v\/∃n,b= .az (H.next+1) 0 n 1 Z):=
 aZ.qU (K:=aN) m1 h d (aw.refl _) (a:=a) (cs:=[D F a]) rfl (λ_ _=>trivial) ar
theorem ad1{B M:Nat}{aT:List Int}{b6:af}{cs:List af}(h:aZ aN B ba H aT b6)(aL:kC aN b6)(w:M<B)(t:B<=H.next)(bR:H.get M=A (.row I 9 [cs]))(x:cs.length=9)(i:cs[7]? =A b6)(ar:aT.length<=400000000)(v:Int):
  W (aK P aD 284 [.ptr M 0 7,.iface 3 (D F v)] H) λr H'=>r= .tuple []/\∃wv',so B M cs b6 H H' (aT++[v]) wv':=by
 refine agp 0 ?_;obtain⟨N,H',o,b,p,O,s,f⟩:=h.Vn (a:=v) t aa;have m:sD P 3 I (.iface 3 (D F v))=A (D F v):=aG;have G:=aw.push H (.row I 1 [[D F v]]);have g:H'.get M=A (.row I 9 [cs]):=by rw[p.2 M w];omega
 have hle:(H.push (.row I 1 [[D F v]])).next<=H'.next:=by simp;omega
 have z:=b.az.one;refine bb @IA.eq_1 (rk bR i) (rk (G.get bR) i) m @aib (ag o (ag (mh g z x) (dD h.az))) ?_;have E:=ae.bm g;refine aE.2 ⟨rfl,N,?_,?_,ae.cO E,by simp;omega,?_,?_⟩
 ·refine⟨?_,b.low⟩;rcases b.eS with q|⟨L',els,cap,l,K,S,d⟩
  ·exact .inl q
  ·have:=b.low _ _ _ l;exact .inr ⟨L',els,cap,l,K,by grind[ae.b_],d.1,d.2.1,d.2.2⟩
 ·exact aL.app f
 ·intro k y Q j;rw[ae.b_ aa];exact s k y λL n c e=>by rintro rfl;rw[e]at j;exact j rfl
 ·intro L u;rcases f with rfl|⟨R,rfl⟩
  ·grind
  ·cases u;omega
theorem ad0{B M:Nat}{aT:List Int}{v:Int}{b6:af}{cs:List af}(h:aZ aN B ba H (aT++[v]) b6)(aL:kC aN b6)(z:M<B)(bR:H.get M=A (.row I 9 [cs]))(m:cs.length=9)(l:cs[7]? =A b6)(ar:aT.length<=400000000):
  W (aK P aD 283 [.ptr M 0 7] H) λr H'=>r= .iface 3 (D F v)/\∃wv',so B M cs b6 H H' aT wv'/\dx wv'=dx b6:=by
 refine ago 0 ?_;obtain⟨w,s1,s2,x⟩:=h.pop m1 aL;obtain⟨p,i1,i2⟩:∃p,ct P 246 b6 (D F aT.length)=A p/\aJ P H 3 p=A (D F v):=by
  obtain⟨p,k,b,c,g⟩:=aI.val (K:=aN) m1 qG h.az (j:=(aT.length:Int)) (a:=v) aa aW;exact⟨p,b,by rw[c,show k=[_]from g];rfl⟩
 have f:=h.az.len m1 (H0:= .empty);have i:IntKind.i64.wrap ((((aT++[v]).length:Nat):Int)-1)=(aT.length:Int):=by
  grind[wrap_i64]
 have o:=s2.az.one;have s:ox P 3 (D F v)=A (.iface 3 (D F v)):=aG;simp only[List.length_append,List.length_cons,List.length_nil,Nat.zero_add]at f i;have u:∀R:br,bn R (.const .nilIface)=A .nilIface:=λ_=>rfl
 refine bb @Iz.eq_1 u (rk bR l) f i (ag i1 (ag i2 (ag s1 (ag (mh bR o m) s)))) ?_;have t:=ae.bm bR;have n:dx w=dx b6:=by
  rcases h.eS with⟨_,e⟩|⟨L,els,cap,rfl,_⟩
  ·simp at e
  ·have:gI P 246 (.az L 0 (aT++[v]).length 1 cap) Z (A (D F aT.length)) Z=A w:=s1;rcases aL L _ _ rfl with rfl|y
   ·have ah:(aT.length:Int)<=(aT.length:Int)+1:=aa;simp[gI,m1.un,m1.ts,dR,ah]at this;rw[<-this];rfl
   grind
 refine aE.2 ⟨rfl,w,⟨?_,x,ae.cO t,aW,?_,?_⟩,n⟩
 ·refine⟨?_,s2.low⟩;rcases s2.eS with q|⟨L',els,cap,b,c,g,d⟩
  ·exact .inl q
  ·have:=s2.low _ _ _ b;exact .inr ⟨L',els,cap,b,c,by grind[ae.b_],d.1,d.2.1,d.2.2⟩
 ·grind[ae.b_]
 grind
theorem aam{B M:Nat}{aT:List Int}{b6:af}{cs:List af}(h:aZ aN B ba H aT b6)(aL:kC aN b6)(c:M<B)(f:B<=H.next)(bR:H.get M=A (.row I 9 [cs]))(l:cs.length=9)(e:cs[7]? =A b6)(ar:aT.length<=300000000)(v:Int):
  W (aK P aD 222 [.iface 288 (.ptr M 0 7),.iface 3 (D F v)] H) λr H'=>r= .tuple []/\∃wk' wv',wk'.Perm (v::aT)/\so B M cs b6 H H' wk' wv':=by
 refine afV 0 ?_;refine bT @H7.eq_1 @kg.eq_1 @acH ?_;refine cB (ad1 h aL c f bR l e aa v) ?_;rintro _ H1 ⟨rfl,b,q⟩;refine⟨q.next,?_⟩;have d:(cs.set 7 b)[7]? =A b:=al;refine bT @kg.eq_1 @O3 (rk q.bR d) ?_;have hlen:W (aK P aD 223 [b] H1) λr H'=>r= D F ((aT++[v]).length:Nat)/\H'=H1:=by
  refine G5 0 ?_;refine bF @xg.eq_1 (q.lc.az.bf m1) ?_;grind[aE]
 refine dK hlen ?_;have s:IntKind.i64.wrap ((((aT++[v]).length:Nat):Int)-1)=(aT.length:Int):=by
  grind[wrap_i64]
 refine bK s ?_;obtain⟨L,cap,rest,rfl,g,u,p7⟩:=q.lc.p7 c q.bR d aW;refine cB (akD p7 (j:=aT.length) aW al) ?_;rintro _ t ⟨rfl,wk',r⟩;refine⟨by rw[r.next];omega,aE.2 ⟨rfl,wk',.az L 0 (aT++[v]).length 1 cap,r.perm.trans (List.perm_append_comm),?_⟩⟩;have a:wk'.length=(aT++[v]).length:=r.perm.length_eq;rw[<-a];have ir:=q.ir L rfl;refine⟨r.q.lc g al,?_,?_,?_,?_,?_⟩
 ·rw[a];exact q.Gq
 ·rw[r.get M aa,a];exact q.bR
 ·rw[r.next];exact q.next
 ·intro k m o p;have n:k≠L:=by
   grind
  rw[r.get k n];exact q.get k m o p
 ·intro L' i;cases i;omega
theorem aal{B M:Nat}{aT:List Int}{b6:af}{cs:List af}(h:aZ aN B ba H aT b6)(aL:kC aN b6)(g:M<B)(bR:H.get M=A (.row I 9 [cs]))(z:cs.length=9)(c:cs[7]? =A b6)(ar:aT.length<=300000000)(m:aT≠[]):
  W (aK P aD 224 [.iface 288 (.ptr M 0 7)] H) λr H'=>∃v wk' wv',r= .iface 3 (D F v)/\(v::wk').Perm aT/\so B M cs b6 H H' wk' wv':=by
 refine afW 0 ?_;have hlen:W (aK P aD 223 [b6] H) λr H'=>r= D F (aT.length:Nat)/\H'=H:=by
  refine G5 0 ?_;refine bF @xg.eq_1 (h.az.bf m1) ?_;grind[aE]
 have o:0<aT.length:=List.length_pos_iff.2 m;have N:IntKind.i64.wrap ((aT.length:Int)-1)=((aT.length-1:Nat):Int):=by grind[wrap_i64]
 refine cu @H8.eq_1 @kg.eq_1 @O3 (rk bR c) ?_;refine dK hlen ?_;obtain⟨L,cap,rest,rfl,y,Q,p7⟩:=h.p7 g bR c m;refine cu N @kg.eq_1 @Gg p7.fE ?_;refine cB (JB p7 (i:=0) (j:=aT.length-1) o aa) ?_;rintro _ H1 ⟨rfl,rfl⟩;refine⟨aW,?_⟩;have s:=jN.swap p7 o (show aT.length-1<aT.length by omega);refine cB (Xr s.q (n:=aT.length-1) (by grind[se]) (by grind[se])) ?_;rintro _ u ⟨⟨b,rfl⟩,d,t⟩;refine⟨by rw[t.next];omega,?_⟩;have r:=s.trans t;have K:d.length=aT.length:=r.perm.length_eq;obtain⟨f,v,w⟩:∃f v,d=f++[v]:=by
  rcases List.eq_nil_or_concat d with rfl|⟨a,b,e⟩
  ·grind
  grind
 subst w;have p:=r.q.lc y al;have x:u.get M=A (.row I 9 [cs]):=by rw[r.get M aa];omega
 rw[K]at p;refine bF @kg.eq_1 @acG ?_;refine cB (ad0 p aL g x z c al) ?_;rintro _ O ⟨rfl,wv',q,S⟩;refine⟨q.next,aE.2 ⟨v,f,wv',rfl,?_,q.lc,q.Gq,q.bR,by have:=q.next;rw[r.next]at this;omega,?_,?_⟩⟩
 ·exact(List.perm_append_comm (l₁:=[v])).trans r.perm
 ·intro k R G l;have E:k≠L:=by rintro rfl;exact l rfl
  rw[q.get k (by rw[r.next];omega) G l,r.get k E]
 grind
end
end
section
open Go.a2
set_option maxRecDepth 2000
def hh(l:List Nat):List (List af):=l.map λn=>[D .u64 (n:Nat)]
def zv{l:List Nat}{i n:Nat}(h:l[i]? =A n):(hh l)[i]? =A [D .u64 (n:Nat)]:=by simp[hh,h]
def KC(l:List Nat)(i n:Nat):(hh l).set i [D .u64 (n:Nat)]=hh (l.set i n):=by simp[hh,List.map_set]
def iC(q:a2.Ask):List af:=[D F (if q.fE then 3 else 4),D F (q.o:Nat),D F (q.f:Nat)]
def zd:e0 a2.Ask:=⟨3,λ_ _ q cs=>cs=iC q,by rintro _ _ q _ rfl;exact⟨rfl,rfl⟩,λ_ h=>h⟩
def vx:fj 284 286 3:=⟨aG,aG,⟨24,aG,b0⟩,⟨.agg [D F 0,D F 0,D F 0],aG,rfl,rfl⟩,b0⟩
def rr:fj 243 251 1:=⟨aG,aG,⟨8,aG,b0⟩,⟨D .u64 0,aG,rfl,rfl⟩,b0⟩
def F8:fj 244 284 1:=⟨aG,aG,⟨24,aG,b0⟩,⟨.aq,aG,rfl,rfl⟩,b0⟩
def iq(p:Nat×Nat):af×af:=(.agg [D F (p.1:Nat),D F (p.2:Nat)],.agg [])
def iI(n V a:Nat)(dv:Nat->af):List af:=[D F (n:Nat),D F 8,.az a 0 V 1 (A V),.az (a+1) 0 V 1 (A V),.az (a+2) 0 V 1 (A V),.az (a+3) 0 V 1 (A V),.map (a+4),dv (2*V),.az (a+5) 0 V 1 (A V)]
structure cN(n V a:Nat)(S:bI)(aT:List Int)(dv:Nat->af)(es:List (Nat×Nat))(H:ae):Prop where
 bR:H.get (a+6)=some (.row false 9 [iI n V a dv])
 cp:H.get a=some (.row false 1 (hh S.am))
 gd:H.get (a+1)=some (.row false 1 ((List.range V).map λv=>[dv v]))
 iB:H.get (a+2)=some (.row false 1 ((List.range V).map λv=>[dv (V+v)]))
 hy:H.get (a+3)=some (.row false 1 (hh S.seen))
 ed:H.get (a+4)=some (.map (es.map iq))
 cC:H.get (a+5)=some (.row false 1 (da S.waits))
 cy:S.am.length=V
 aS:S.g1.length=V
 hB:S.asks.length=V
 ls:S.seen.length=V
 lw:S.waits.length=V
 g:∀v,v<V->aZ aN (a+7) ba H (aO (S.g v)) (dv v)
 q:∀v,v<V->aZ zd (a+7) ba H (S.q v) (dv (V+v))
 w:aZ aN (a+7) ba H aT (dv (2*V))
 wn:kC aN (dv (2*V))
 ht:∀o g6 L,o<=2*V->g6<=2*V->dx (dv o)=some L->dx (dv g6)=some L->o=g6
 perm:aT.Perm (aO S.work)
 kp:∀x y,(x,y)∈es↔x<V/\y∈S.g x
 ko:∀v,(S.g v).Nodup
 j3:∀v,∀b∈S.g v,b<V
 ke:S.work.Nodup
 kd:∀v∈S.work,v<V
 wt:∀u,u<V->S.w u=false->u∉S.work
 fk:∀v,S.a v<2^64
def Gu:∀(V:Nat) {l:List Nat},l.Nodup->(∀x∈l,x<V)->l.length<=V
 |0,l,_,h=>by
  cases l with
  |nil=>simp
  |cons a l=>have:=h a aW;omega
 |V+1,l,aL,h=>by
  have ah:=Gu V (aL.erase V) al;grind
section
variable {n V a:Nat}{S:bI}{aT:List Int}{dv:Nat->af}{es:List (Nat×Nat)}{H:ae}
def cN.lt(h:cN n V a S aT dv es H):a+7<=H.next:=by have:=ae.bm h.bR;omega
def cN.Ul(h:cN n V a S aT dv es H):aT.length<=V:=by
 rw[h.perm.length_eq,aO,List.length_map];exact Gu V h.ke h.kd
def cN.Nf(h:cN n V a S aT dv es H)(v:Nat):(S.g v).length<=V:=Gu V (h.ko v) (h.j3 v)
theorem cN.aC{H':ae}(h:cN n V a S aT dv es H)(p:aw H H'):cN n V a S aT dv es H':=
 {h with bR:=p.get h.bR,cp:=p.get h.cp,gd:=p.get h.gd,iB:=p.get h.iB,hy:=p.get h.hy,ed:=p.get h.ed,cC:=p.get h.cC,g:=λv b=>(h.g v b).aC p,q:=λv b=>(h.q v b).aC p,w:=h.w.aC p}
def gM(g:H.get (a+6)=A (.row I 9 [iI n V a dv])):aJ P H 3 (.ptr (a+6) 0 0)=A (D F n)/\aJ P H 3 (.ptr (a+6) 0 1)=A (D F 8)/\aJ P H 243 (.ptr (a+6) 0 2)=A (.az a 0 V 1 (A V))/\aJ P H 31 (.ptr (a+6) 0 3)=A (.az (a+1) 0 V 1 (A V))/\aJ P H 244 (.ptr (a+6) 0 4)=A (.az (a+2) 0 V 1 (A V))
  /\aJ P H 243 (.ptr (a+6) 0 5)=A (.az (a+3) 0 V 1 (A V))/\aJ P H 245 (.ptr (a+6) 0 6)=A (.map (a+4))/\aJ P H 246 (.ptr (a+6) 0 7)=A (dv (2*V))/\aJ P H 104 (.ptr (a+6) 0 8)=A (.az (a+5) 0 V 1 (A V)):=by
 rw[iI]at g;have t (t c:Nat) (a_:ev P t=A I):=eW (c:=c) (i:=0) a_ g rfl;exact⟨t _ 0 aG,t _ 1 aG,t _ 2 aG,t _ 3 aG,t _ 4 aG,t _ 5 aG,t _ 6 aG,t _ 7 aG,t _ 8 aG⟩
theorem mQ{t e L v:Nat}(y:fj t e 1)(a:v<V):ct P t (.az L 0 V 1 (A V)) (D F v)=A (.ptr L v 0):=by
 grind[nJ]
def im{t e v:Nat}(y:fj t e 1)(a:v<V):∀L,ct P t (.az L 0 V 1 (A V)) (D F v)=A (.ptr L v 0):=λ_=>mQ y a
theorem cN.rl(h:cN n V a S aT dv es H){v:Nat}(b:v<V):aJ P H 251 (.ptr a v 0)=A (D .u64 (S.a v:Nat)):=by
 rw[eW aG h.cp (zv (n:=S.a v) (by have:=h.cy;grind[bI.a]))];rfl
theorem cN.abK(h:cN n V a S aT dv es H){v:Nat}(b:v<V):aJ P H 251 (.ptr (a+3) v 0)=A (D .u64 (S.s v:Nat)):=by
 rw[eW aG h.hy (zv (n:=S.s v) (by have:=h.ls;grind[bI.s]))];rfl
theorem cN.JO(h:cN n V a S aT dv es H){v:Nat}(b:v<V):S.waits[v]? =A (S.w v):=by
 have:=h.lw;grind[bI.w]
def cN.Ow(h:cN n V a S aT dv es H){v:Nat}(b:v<V):aJ P H 4 (.ptr (a+5) v 0)=A (C (S.w v)):=by
 rw[eW aG h.cC (u3 (h.JO b))];rfl
theorem cN.abL(h:cN n V a S aT dv es H){v:Nat}(b:v<V):aJ P H 30 (.ptr (a+1) v 0)=A (dv v):=by
 rw[eW aG h.gd (e:=[dv v]) al];rfl
theorem cN.vt(h:cN n V a S aT dv es H){v:Nat}(b:v<V):aJ P H 284 (.ptr (a+2) v 0)=A (dv (V+v)):=by
 rw[eW aG h.iB (e:=[dv (V+v)]) al];rfl
theorem q_(g:H.get (a+6)=A (.row I 9 [iI n V a dv])){t f:Nat}(e:n+t*8+f<=1000000):W (aK P aD 184 [.ptr (a+6) 0 0,D F t,D F f] H) λr H'=>r= D F (dk n t f:Nat)/\H'=H:=by
 refine afD 0 ?_;have b:bx P .mul 3 I (D F (t:Int)) (D F 8)=A (D F ((t*8:Nat):Int)):=by
  show A (af.int F (IntKind.i64.wrap ((t:Int)*8)))=_;grind[wrap_i64]
 have c:IntKind.i64.wrap ((n:Int)+((t*8:Nat):Int))=((n+t*8:Nat):Int):=by grind[wrap_i64]
 have d:IntKind.i64.wrap (((n+t*8:Nat):Int)+(f:Int))=((dk n t f:Nat):Int):=by grind[wrap_i64,dk]
 refine dd @HN.eq_1 (gM g) b c d ?_;grind[aE]
end
end
section
open Go.a2
set_option maxRecDepth 2000
def Plain{α:Type}(K:e0 α):Prop:=∀{H H':ae} {ok ok':Nat->Prop} {a:α} {cs:List af},K.V H ok a cs->K.V H' ok' a cs
def fy:Plain aN:=λh=>h
def p6:Plain zd:=λh=>h
def aZ.frame{α:Type}{K:e0 α}(c:Plain K){B:Nat}{H H':ae}{l:List α}{v:af}(h:aZ K B ba H l v)(aR:∀L,dx v=A L->H'.get L=H.get L):aZ K B ba H' l v:=by
 refine⟨?_,h.low⟩;rcases h.eS with ah|⟨L,els,cap,b,d,m,e,f,g⟩
 ·exact .inl ah
 ·exact .inr ⟨L,els,cap,b,d,by rw[aR L (by rw[b];rfl)];omega,e,f,λi a aP=>by obtain⟨cs,j,k⟩:=g i a aP;exact⟨cs,j,c k⟩⟩
def aZ.jy{α:Type}{K:e0 α}{B:Nat}{ok:Nat->Prop}{H:ae}{l:List α}{v:af}(h:aZ K B ok H l v){L:Nat}(e:dx v=A L):B<=L/\L<H.next:=by
 rcases h.eS with⟨rfl,_⟩|⟨L',els,cap,rfl,_,g,_⟩
 ·cases e
 ·cases e;exact⟨h.low _ _ _ rfl,ae.bm g⟩
section
variable {n V a:Nat}{S:bI}{aT:List Int}{dv:Nat->af}{es:List (Nat×Nat)}{H:ae}
def cN.j6(h:cN n V a S aT dv es H){o:Nat}(aX:o<=2*V){L:Nat}(e:dx (dv o)=A L):a+7<=L/\L<H.next:=by
 by_cases ah:o<V
 ·exact(h.g o ah).jy e
 ·by_cases ai:o<2*V
  ·have:=h.q (o-V) aa;rw[show V+(o-V)=o by omega]at this;exact this.jy e
  ·obtain rfl:o=2*V:=aa;exact h.w.jy e
theorem cN.other(h:cN n V a S aT dv es H){c:Nat}(aA:c<7)(b:bA):(∀k,k≠a+c->(H.set (a+c) b).get k=H.get k)/\(∀{α:Type} {K:e0 α} {l:List α} {v:af},Plain K->aZ K (a+7) ba H l v->aZ K (a+7) ba (H.set (a+c) b) l v):=by
 have ah:∀k,k≠a+c->(H.set (a+c) b).get k=H.get k:=(by grind[ae.b_]);exact⟨ah,λd ar=>ar.frame d λL e=>ah L (by have:=(ar.jy e).1;omega)⟩
def cN.SO(h:cN n V a S aT dv es H){v:Nat}(b:Bool)(i:∀u,u<V->({S with waits:=S.waits.set v b}:bI).w u=I->u∉S.work):
  cN n V a {S with waits:=S.waits.set v b} aT dv es (H.set (a+5) (.row I 1 (da (S.waits.set v b)))):=by
 obtain⟨d,f⟩:=h.other (c:=5) aa (.row I 1 (da (S.waits.set v b)));have j:=h.lt;exact {
  bR:=by rw[d _ aa];exact h.bR,cp:=by rw[d _ aa];exact h.cp,gd:=by rw[d _ aa];exact h.gd,iB:=by rw[d _ aa];exact h.iB,hy:=by rw[d _ aa];exact h.hy,ed:=by rw[d _ aa];exact h.ed,cC:=ae.cO aa,
  cy:=h.cy,aS:=h.aS,hB:=h.hB,ls:=h.ls,lw:=by simpa using h.lw,g:=λv e=>f fy (h.g v e),q:=λv e=>f p6 (h.q v e),w:=f fy h.w,wn:=h.wn,ht:=h.ht,perm:=h.perm,kp:=h.kp,ko:=h.ko,j3:=h.j3,ke:=h.ke,kd:=h.kd,wt:=i,fk:=h.fk}
def cN.ahF(h:cN n V a S aT dv es H)(v x:Nat)(f:∀u,({S with am:=S.am.set v x}:bI).a u<2^64):
  cN n V a {S with am:=S.am.set v x} aT dv es (H.set a (.row I 1 (hh (S.am.set v x)))):=by
 obtain⟨b,d⟩:=h.other (c:=0) aa (.row I 1 (hh (S.am.set v x)));rw[Nat.add_zero]at b d;have i:=h.lt;exact {
  bR:=by rw[b _ aa];exact h.bR,cp:=ae.cO aa,gd:=by rw[b _ aa];exact h.gd,iB:=by rw[b _ aa];exact h.iB,hy:=by rw[b _ aa];exact h.hy,ed:=by rw[b _ aa];exact h.ed,cC:=by rw[b _ aa];exact h.cC,
  cy:=by simpa using h.cy,aS:=h.aS,hB:=h.hB,ls:=h.ls,lw:=h.lw,g:=λv e=>d fy (h.g v e),q:=λv e=>d p6 (h.q v e),w:=d fy h.w,wn:=h.wn,ht:=h.ht,perm:=h.perm,kp:=h.kp,ko:=h.ko,j3:=h.j3,ke:=h.ke,kd:=h.kd,wt:=h.wt,fk:=f}
def cN.ahG(h:cN n V a S aT dv es H)(v x:Nat):
  cN n V a {S with seen:=S.seen.set v x} aT dv es (H.set (a+3) (.row I 1 (hh (S.seen.set v x)))):=by
 obtain⟨b,e⟩:=h.other (c:=3) aa (.row I 1 (hh (S.seen.set v x)));have f:=h.lt;exact {
  bR:=by rw[b _ aa];exact h.bR,cp:=by rw[b _ aa];exact h.cp,gd:=by rw[b _ aa];exact h.gd,iB:=by rw[b _ aa];exact h.iB,hy:=ae.cO aa,ed:=by rw[b _ aa];exact h.ed,cC:=by rw[b _ aa];exact h.cC,
  cy:=h.cy,aS:=h.aS,hB:=h.hB,ls:=by simpa using h.ls,lw:=h.lw,g:=λv d=>e fy (h.g v d),q:=λv d=>e p6 (h.q v d),w:=e fy h.w,wn:=h.wn,ht:=h.ht,perm:=h.perm,kp:=h.kp,ko:=h.ko,j3:=h.j3,ke:=h.ke,kd:=h.kd,wt:=h.wt,fk:=h.fk}
def dp(dv:Nat->af)(o:Nat)(v:af):Nat->af:=λk=>if k=o then v else dv k
theorem hl(dv:Nat->af)(o:Nat)(v:af):dp dv o v o=v:=if_pos rfl
theorem fm(dv:Nat->af){o k:Nat}(v:af)(h:k≠o):dp dv o v k=dv k:=if_neg h
def ajq(n V a:Nat)(dv:Nat->af)(v:af):(iI n V a dv).set 7 v=iI n V a (dp dv (2*V) v):=by
 simp only[iI,hl];rfl
theorem Tm(n V a:Nat)(dv:Nat->af){o:Nat}(v:af)(h:o≠2*V):iI n V a (dp dv o v)=iI n V a dv:=by
 grind[iI,fm]
theorem Ff{V:Nat}{dv:Nat->af}{o:Nat}{v:af}(ht:∀o g6 L,o<=2*V->g6<=2*V->dx (dv o)=A L->dx (dv g6)=A L->o=g6)(aX:o<=2*V)(f:∀L,dx v=A L->dx (dv o)=A L\/∀g6,g6<=2*V->dx (dv g6)≠A L):
  ∀p a L,p<=2*V->a<=2*V->dx (dp dv o v p)=A L->dx (dp dv o v a)=A L->p=a:=by
 intro p a L c d e b;by_cases ah:p=o<;>by_cases ai:a=o
 ·omega
 ·grind[hl,fm]
 ·grind[hl,fm]
 grind[fm]
theorem AU{V:Nat}{dv a:Nat->af}(h:∀v,v<V->a v=dv v):((List.range V).map λv=>[a v])=(List.range V).map λv=>[dv v]:=
 (by grind[List.map_congr_left])
theorem cN.aH(h:cN n V a S aT dv es H)(t:0<V){c:List Nat}{wk':List Int}{wv':af}{H':ae}(q:so (a+7) (a+6) (iI n V a dv) (dv (2*V)) H H' wk' wv')(p:wk'.Perm (aO c))(l:c.Nodup)(j:∀v∈c,v<V)(r:∀u,u<V->S.w u=I->u∉c):
  cN n V a {S with work:=c} wk' (dp dv (2*V) wv') es H':=by
 have x:=h.lt;have low:∀k,k<a+6->H'.get k=H.get k:=λk y=>q.get k aa aa λe=>by have:=(h.j6 (ds _) e).1;omega
 have z:∀o L,o<2*V->dx (dv o)=A L->H'.get L=H.get L:=λo L aX e=>by
  have ar:=h.j6 aa e;exact q.get L ar.2 aa λd=>by have:=h.ht _ _ L (Nat.le_of_lt aX) (ds _) e d;omega
 have f:∀v,v<V->dp dv (2*V) wv' v=dv v:=(by grind[fm]);have i:∀v,v<V->dp dv (2*V) wv' (V+v)=dv (V+v):=(by grind[fm]);exact {
  bR:=by rw[q.bR,ajq],cp:=by rw[low _ aa];exact h.cp,gd:=by rw[low _ aa,AU f];exact h.gd,iB:=by rw[low _ aa,AU (dv:=λv=>dv (V+v)) i];exact h.iB,hy:=by rw[low _ aa];exact h.hy,ed:=by rw[low _ aa];exact h.ed,cC:=by rw[low _ aa];exact h.cC,
  cy:=h.cy,aS:=h.aS,hB:=h.hB,ls:=h.ls,lw:=h.lw,
  g:=λv b=>by rw[f v b];exact(h.g v b).frame fy al
  q:=λv b=>by rw[i v b];exact(h.q v b).frame p6 al
  w:=by rw[hl];exact q.lc
  wn:=by rw[hl];exact q.Gq
  ht:=Ff h.ht aa λL e=>(q.ir L e).imp id λs g6 m d=>by have:=(h.j6 m d).2;omega
  perm:=p,kp:=h.kp,ko:=h.ko,j3:=h.j3,ke:=l,kd:=j,wt:=r,fk:=h.fk}
def Fr(V a:Nat)(dv b:Nat->af)(H H':ae):Prop:=H.next<=H'.next/\∀k,k<H.next->(k<a\/a+7<=k)->(∀o,o<=2*V->dx (dv o)≠A k)->H'.get k=H.get k/\∀o,o<=2*V->dx (b o)≠A k
theorem Fr.refl(V a:Nat)(dv:Nat->af)(H:ae):Fr V a dv dv H H:=⟨aa,λ_ _ _ h=>⟨rfl,h⟩⟩
theorem Fr.trans{V a:Nat}{d1 d2 d3:Nat->af}{H1 b c:ae}(h:Fr V a d1 d2 H1 b)(k:Fr V a d2 d3 b c):Fr V a d1 d3 H1 c:=
 ⟨Nat.le_trans h.1 k.1,λj e d ar=>by
  obtain⟨g,f⟩:=h.2 j e d ar;obtain⟨i,l⟩:=k.2 j (Nat.lt_of_lt_of_le e h.1) d f;grind⟩
theorem Fr.aC{V a:Nat}{dv:Nat->af}{H H':ae}(p:aw H H'):Fr V a dv dv H H':=⟨p.1,λk b _ h=>⟨p.2 k b,h⟩⟩
theorem Fr.set{V a c:Nat}{dv:Nat->af}(H:ae)(aA:c<7)(b:bA):Fr V a dv dv H (H.set (a+c) b):=⟨aW,(by grind[ae.b_])⟩
def So(n V a:Nat)(c:bI)(keep:Nat->Prop)(dv:Nat->af)(H:ae)(H':ae):Prop:=∃wk' b es',cN n V a c wk' b es' H'/\(∀o,keep o->b o=dv o)/\Fr V a dv b H H'
theorem cN.M_(h:cN n V a S aT dv es H){wk':List Int}{wv':af}{H':ae}(q:so (a+7) (a+6) (iI n V a dv) (dv (2*V)) H H' wk' wv'):Fr V a dv (dp dv (2*V) wv') H H':=
 ⟨q.next,λk c d ar=>⟨q.get k c aa (ar _ aa),λo aX e=>by
  by_cases b:o=2*V
  ·subst b;rw[hl]at e;rcases q.ir k e with ah|ah
   ·grind
   omega
  grind[fm]⟩⟩
def cN.eu{b:Nat->af}{H':ae}(h:cN n V a S aT dv es H)(f:Fr V a dv b H H'):cg a H H':=
 ⟨f.1,λk c=>(f.2 k (by have:=h.lt;omega) (.inl c) λo aX e=>by have:=(h.j6 aX e).1;omega).1⟩
theorem JM{S:bI}{v u:Nat}{b:Bool}(a:v<S.waits.length):({S with waits:=S.waits.set v b}:bI).w u=if u=v then b else S.w u:=by
 grind[bI.w]
theorem OM(h:cN n V a S aT dv es H)(k:V<=1000000){v:Nat}(b:v<V):W (aK P aD 181 [.ptr (a+6) 0 0,D F v] H) λr H'=>r= .tuple []/\So n V a (ji S v) (λo=>o<2*V) dv H H':=by
 refine afA 0 ?_;have m:=h.lw;cases hw:S.w v with
 |true=>
  have l:=h.Ow b;rw[hw]at l;refine cu @BU.eq_1 (gM h.bR) (im pW b) l ?_;exact aE.2 ⟨rfl,aT,dv,es,by grind[ji],λ_ _=>rfl,.refl _ _ _ _⟩
 |false=>
  have l:=h.Ow b;rw[hw]at l;have st:=yY (b':=true) h.cC (h.JO b);have f:=h.wt v b hw;have ah:=h.SO (v:=v) J (λu hu e=>by
   rw[JM aa]at e;by_cases g:u=v
   ·grind
   ·rw[if_neg g]at e;exact h.wt u hu e)
  have i1:∀l i c,ox P 288 (.ptr l i c)=A (.iface 288 (.ptr l i c)):=λl i c=>aG
  have i2:ox P 3 (D F (v:Nat))=A (.iface 3 (D F (v:Nat))):=aG;refine bb @BU.eq_1 (gM h.bR) (im pW b) l st (ag i1 i2) ?_;have hlen:=ah.Ul;have d:=ah.lt;refine cB (aam ah.w ah.wn aa d ah.bR rfl rfl aa v) ?_;rintro _ j ⟨rfl,wk',wv',pm,q⟩;refine⟨q.next,aE.2 ⟨rfl,wk',_,es,?_,(by grind[fm]),(Fr.set H aa _).trans (ah.M_ q)⟩⟩
  ·have e:ji S v={S with waits:=S.waits.set v J,work:=v::S.work}:=by grind[ji]
   rw[e];refine ah.aH aa q (pm.trans ?_) (List.nodup_cons.2 ⟨f,h.ke⟩) ?_ ?_
   ·exact h.perm.cons _
   ·intro u hu;rcases List.mem_cons.1 hu with rfl|hu
    ·omega
    ·exact h.kd u hu
   ·intro u hu e hm;rcases List.mem_cons.1 hm with rfl|hm
    ·grind[JM]
    ·exact ah.wt u hu e hm
theorem FE(h:cN n V a S aT dv es H)(j:V<=1000000){v x:Nat}(b:v<V)(aF:x<2^64)(e:S.a v<2^64):W (aK P aD 220 [.ptr (a+6) 0 0,D F v,D .u64 x] H) λr H'=>r= .tuple []/\So n V a (gJ S v x) (λo=>o<2*V) dv H H':=by
 refine afT 0 ?_;by_cases he:S.a v|||x=S.a v
 ·have d:(((S.a v|||x:Nat):Int) != ((S.a v:Nat):Int))=false:=al;refine bb @Ch.eq_1 (gM h.bR) (im rr b) (h.rl b) (λz0 f=>GD z0 f e aF) d ?_;exact aE.2 ⟨rfl,aT,dv,es,by grind[gJ],λ_ _=>rfl,.refl _ _ _ _⟩
 ·have d:(((S.a v|||x:Nat):Int) != ((S.a v:Nat):Int))=true:=al;have m:=h.cy;have i:S.am[v]? =A (S.a v):=by grind[bI.a]
  have st:cz P H 251 (.ptr a v 0) (D .u64 ((S.a v|||x:Nat):Int))=A (H.set a (.row I 1 (hh (S.am.set v (S.a v|||x))))):=by
   rw[fb (n:=1) aG h.cp (zv i) rfl rfl aa,<-KC];rfl
  refine bb @Ch.eq_1 (gM h.bR) (im rr b) (h.rl b) (λz0 f=>GD z0 f e aF) (ag d st) ?_;have ah:=h.ahF v (S.a v|||x) (λu=>by
   unfold bI.a;rw[pM aa];split
   ·exact Nat.or_lt_two_pow e aF
   ·exact h.fk u)
  refine cB (OM ah j b) ?_;rintro _ l ⟨rfl,wk',g,es',ai,k,p⟩;refine⟨p.1,aE.2 ⟨rfl,wk',g,es',by grind[gJ],k,(Fr.set (c:=0) H aa _).trans p⟩⟩
end
end
section
open Go.a2
set_option maxRecDepth 2000
def UQ(x y u v:Int):js P 10000 312 (.agg [D F x,D F y]) (.agg [D F u,D F v])=bif x==u then(bif y==v then A J else A I)else A false:=aG
def UR(p q:Nat×Nat):js P 10000 312 (iq p).1 (iq q).1=A (decide (p=q)):=by
 refine(UQ p.1 p.2 q.1 q.2).trans ?_;obtain⟨x,y⟩:=p;obtain⟨u,v⟩:=q;simp only[dV];by_cases ah:x=u<;>by_cases ai:y=v
 ·grind
 ·grind
 ·grind
 grind
def EC(p:Nat×Nat):∀(es:List (Nat×Nat)) (i:Nat),(p∉es->nC P 312 (iq p).1 (es.map iq) i=A Z)/\(p∈es->∃j,nC P 312 (iq p).1 (es.map iq) i=A (A (j,.agg [])))
 |[],i=>⟨λ_=>rfl,λh=>al⟩
 |e::es,i=>by
  obtain⟨ah,ai⟩:=EC p es (i+1);simp only[List.map_cons,nC,UR];by_cases he:p=e
  ·rw[decide_eq_true he];exact⟨al,λ_=>⟨i,rfl⟩⟩
  grind
def TQ:P.underlying 245=A (.map 312 310):=aG
def acx{H:ae}{K:Nat}{es:List (Nat×Nat)}(g:H.get K=A (.map (es.map iq)))(p:Nat×Nat):mC P H 245 (.map K) (iq p).1 J=A (.tuple [.agg [],.bool (decide (p∈es))]):=by
 obtain⟨d,a,b,aH⟩:∃d,P.underlying 312=A d/\plainKey d=I/\p4 P d (iq p).1=true:=⟨.array 2 3,aG,aG,aG⟩;have c:gb P 310=A (.agg []):=aG;obtain⟨ah,ai⟩:=EC p es 0;simp only[mC,TQ,a,c,b,aH,g];by_cases hm:p∈es
 ·grind
 grind
def akH{H:ae}{K:Nat}{es:List (Nat×Nat)}(g:H.get K=A (.map (es.map iq)))(p:Nat×Nat)(b:p∉es):jU P H 245 (.map K) (iq p).1 (.agg [])=A (H.set K (.map ((es++[p]).map iq))):=by
 obtain⟨d,a,c,aH⟩:∃d,P.underlying 312=A d/\plainKey d=I/\p4 P d (iq p).1=true:=⟨.array 2 3,aG,aG,aG⟩;simp only[jU,TQ,a,c,aH,g,(EC p es 0).1 b];simp[iq]
def GQ{V o:Nat}(aX:o<V)(dv:Nat->af)(v:af):((List.range V).map λk=>[dv k]).set o [v]=(List.range V).map λk=>[dp dv o v k]:=by
 apply List.ext_getElem?;intro i;by_cases aP:i<V
 ·grind[dp]
 grind
section
variable {n V a:Nat}{S:bI}{aT:List Int}{dv:Nat->af}{es:List (Nat×Nat)}{H:ae}
theorem zW{S:bI}{x v:Nat}{l:List Nat}(aF:x<S.g1.length):({S with g1:=S.g1.set x l}:bI).g v=if v=x then l else S.g v:=by
 grind[bI.g]
theorem vd(h:cN n V a S aT dv es H)(aj:V<=1000000){x y:Nat}(aF:x<V)(aU:y<V):W (aK P aD 221 [.ptr (a+6) 0 0,D F x,D F y] H) λr H'=>r= .tuple []/\So n V a (iA S x y) (λo=>V<=o/\o<2*V) dv H H':=by
 refine afU 0 ?_;have N:ey P 312 [(0,D F (x:Nat)),(1,D F (y:Nat))]=A (iq (x,y)).1:=KU rfl rfl;have E:=acx h.ed (x,y);have bf:=h.lt;have M:=aw.push H (.row I 0 [[]]);have ah:=h.aC M;have ad:cz P (H.push (.row I 0 [[]])) 310 (.ptr H.next 0 0) (.agg [])=A ((H.push (.row I 0 [[]])).set H.next (.row I 0 [[]])):=by
  rw[fb (n:=0) aG (ae.a1 H (.row I 0 [[]])) rfl rfl rfl b0];rfl
 by_cases hm:(x,y)∈es
 ·have ao:=((h.kp x y).1 hm).2;rw[decide_eq_true hm]at E;refine bb @xf.eq_1 (gM h.bR) N E ad @ae.gD ?_;exact aE.2 ⟨rfl,aT,dv,es,by grind[iA],λ_ _=>rfl,.aC M⟩
 ·rw[decide_eq_false hm]at E;have ao:y∉S.g x:=λe=>hm ((h.kp x y).2 ⟨aF,e⟩)
  by_cases an:x=y
  ·have u:(((x:Nat):Int)==((y:Nat):Int))=true:=al;refine bb @xf.eq_1 (gM h.bR) N E ad (ag @ae.gD u) ?_;exact aE.2 ⟨rfl,aT,dv,es,by grind[iA],λ_ _=>rfl,.aC M⟩
  ·have u:(((x:Nat):Int)==((y:Nat):Int))=false:=beq_eq_false_iff_ne.2 λe=>an aa
   have up:=akH ah.ed (x,y) hm;obtain⟨Y,a4⟩:=ah.other (c:=4) aa (.map ((es++[(x,y)]).map iq));have am:=a4 fy (ah.g x aF);have bg:((H.push (.row I 0 [[]])).set (a+4) (.map ((es++[(x,y)]).map iq))).next=H.next+1:=aW
   have R:=(Y (a+6) aa).trans ah.bR;have Q:=(Y (a+1) aa).trans ah.gd;have a_:((H.push (.row I 0 [[]])).set (a+4) (.map ((es++[(x,y)]).map iq))).get (a+4)=A (.map ((es++[(x,y)]).map iq)):=ae.cO (by simp;omega);have be:=h.Nf x;generalize bc:(H.push (.row I 0 [[]])).set (a+4) (.map ((es++[(x,y)]).map iq))=j at*;obtain⟨d,f,a6,bd,bo,bO,b3,cm⟩:=aZ.qU (K:=aN) (ok:=ba) (ok':=ba) bV am aa (aw.refl j) (a:=(y:Int)) (cs:=[D F (y:Nat)]) rfl (λ_ _=>trivial) (by simp[aO];omega);have ax:ej P (j.push (.row I 1 [[D F (y:Nat)]])) [30,30] (dv x) (.az j.next 0 1 1 (A 1))=A (d,f):=a6
   have av:=aw.push j (.row I 1 [[D F (y:Nat)]]);have ap:∀k,k<a+7->f.get k=j.get k:=λk t=>bo.2 k t
   have ai:=(ap (a+6) aa).trans R;have aB:=(ap (a+1) aa).trans Q;have aR:=bd.az.one;have ak:=dn aR;have a8:cz P f 30 (.ptr (a+1) x 0) d=A (f.set (a+1) (.row I 1 ((List.range V).map λk=>[dp dv x d k]))):=by
    rw[fb (n:=1) aG aB (e:=[dv x]) (by simp[aF]) (by rw[ak];rfl) al b0,ak,<-GQ aF];rfl
   have hle:(j.push (.row I 1 [[D F (y:Nat)]])).next<=f.next:=by simp;omega
   have aV:aJ P j 30 (.ptr (a+1) x 0)=A (dv x):=by rw[eW aG Q (e:=[dv x]) al];rfl
   have a0:aJ P (j.push (.row I 1 [[D F (y:Nat)]])) 30 (.ptr (a+1) x 0)=A (dv x):=by rw[eW aG (av.get Q) (e:=[dv x]) (by simp[aF])];rfl
   have a7:bG (A (dv x)) (dv x)=true:=dD am.az;have a5:∀l i n e c,bG (A (.az l i n e c)) (.az l i n e c)=true:=λl i n e c=>by simp[bG,af.beq]
   have Nd:=h.aS;have U:∀k,k<H.next->k≠a+4->k≠a+1->dx (dv x)≠A k->(f.set (a+1) (.row I 1 ((List.range V).map λk=>[dp dv x d k]))).get k=H.get k:=λk t aM T ar=>by
    rw[ae.b_ (Ne.symm T),b3 k aa (λL n c e=>by rintro rfl;rw[e]at ar;exact ar rfl),Y k aM,M.2 k t]
   have B:∀k,k<a+7->k≠a+4->k≠a+1->(f.set (a+1) (.row I 1 ((List.range V).map λk=>[dp dv x d k]))).get k=H.get k:=λk t aM T=>U k aa aM T λe=>by have:=(h.j6 (o:=x) aa e).1;omega
   have ab:∀o L,o<=2*V->o≠x->dx (dv o)=A L->(f.set (a+1) (.row I 1 ((List.range V).map λk=>[dp dv x d k]))).get L=H.get L:=λo L aX aP e=>by
    have ar:=h.j6 aX e;exact U L ar.2 aa aa λO=>aP (h.ht _ _ L aX aa e O)
   have bh:=ae.bm ai;have a3:∀L,dx d=A L->dx (dv x)=A L\/∀g6,g6<=2*V->dx (dv g6)≠A L:=by
    intro L e;rcases cm with z|⟨a2,z⟩
    ·grind
    ·rw[z]at e;cases e;exact .inr λg6 aQ O=>by have:=(h.j6 aQ O).2;omega
   have aM:cN n V a {S with g1:=S.g1.set x (S.g x++[y])} aT (dp dv x d) (es++[(x,y)]) (f.set (a+1) (.row I 1 ((List.range V).map λk=>[dp dv x d k]))):=
    {
     bR:=by rw[B _ aa aa aa,Tm _ _ _ _ _ aa];exact h.bR
     cp:=by rw[B _ aa aa aa];exact h.cp
     gd:=ae.cO aa
     iB:=by rw[B _ aa aa aa,AU (dv:=λv=>dv (V+v)) (λv G=>fm _ _ aa)];exact h.iB
     hy:=by rw[B _ aa aa aa];exact h.hy
     ed:=by grind[ae.b_]
     cC:=by rw[B _ aa aa aa];exact h.cC
     cy:=h.cy,aS:=al,hB:=h.hB,ls:=h.ls,lw:=h.lw
     g:=λv G=>by
      rw[zW aa];by_cases e:v=x
      ·subst e;rw[if_pos rfl,hl];have aA:aO (S.g v++[y])=aO (S.g v)++[(y:Int)]:=by simp[aO]
       rw[aA];exact bd.frame fy λL m=>by
        rw[ae.b_];have:=(bd.jy m).1;omega
      ·rw[if_neg e,fm _ _ e];exact(h.g v G).frame fy λL m=>ab v L aa e m
     q:=λv G=>by
      rw[fm _ _ aa];exact(h.q v G).frame p6 λL m=>ab (V+v) L aa aa m
     w:=by rw[fm _ _ aa];exact h.w.frame fy λL m=>ab (2*V) L (ds _) aa m
     wn:=by rw[fm _ _ aa];exact h.wn
     ht:=Ff h.ht aa a3
     perm:=h.perm
     kp:=λp q=>by
      rw[zW aa,List.mem_append,h.kp];grind
     ko:=λv=>by
      rw[zW aa];split
      ·rw[List.nodup_append];exact⟨h.ko x,aW,λa aL b aj=>al⟩
      ·exact h.ko v
     j3:=λv b s=>by
      rw[zW aa]at s;split at s
      ·rcases List.mem_append.1 s with s|s
       ·exact h.j3 x b s
       grind
      ·exact h.j3 v b s
     ke:=h.ke,kd:=h.kd,wt:=h.wt,fk:=h.fk}
   have aH:=aM.bR;refine bb @xf.eq_1 (gM h.bR) (gM ah.bR) N E (ag ad (ag @ae.gD (ag u (ag up (ag (gM R) (ag (gM (av.get R)) (ag (gM ai) (ag (im dJ aF) (ag aV (ag a0 (ag @c3 (ag ax (ag a8 (ag a7 (ag a5 (ag (gM aH) (ag (im rr aF) (aM.rl aF)))))))))))))))))) ?_;refine cB (FE aM aj aU (h.fk x) (h.fk y)) ?_;rintro _ a9 ⟨rfl,wk',ay,es',aI,t,au⟩;have f4:Fr V a dv (dp dv x d) H (f.set (a+1) (.row I 1 ((List.range V).map λk=>[dp dv x d k]))):=by
    refine⟨by simp;omega,λk t aL ar=>⟨U k t aa aa (ar x aa),λo aX e=> ?_⟩⟩;by_cases u:o=x
    ·subst u;rw[hl]at e;rcases cm with z|⟨a2,z⟩
     ·grind
     ·rw[z]at e;cases e;omega
    grind[fm]
   refine⟨au.1,aE.2 ⟨rfl,wk',ay,es',?_,λo aX=>by grind[fm],f4.trans au⟩⟩;rw[iA,if_neg (λe=>e.elim ao an)];exact aI
end
end
section
open Go.a2
set_option maxRecDepth 2000
theorem QG{S:bI}{x v:Nat}{l:List a2.Ask}(aF:x<S.asks.length):({S with asks:=S.asks.set x l}:bI).q v=if v=x then l else S.q v:=by
 grind[bI.q]
section
variable {n V a:Nat}{S:bI}{aT:List Int}{dv:Nat->af}{es:List (Nat×Nat)}{H:ae}
theorem cN.KK(h:cN n V a S aT dv es H){x:Nat}(aF:x<V)(q:a2.Ask)(ar:(S.q x).length<=999999998):
  ∃b d,ej P (H.push (.row I 3 [iC q])) [284,284] (dv (V+x)) (.az H.next 0 1 3 (A 1))=A (b,d)/\d.get (a+6)=A (.row I 9 [iI n V a dv])/\(H.push (.row I 3 [iC q])).next<=d.next/\(∀k,k<H.next->(k<a\/a+7<=k)->(∀o,o<=2*V->dx (dv o)≠A k)->d.get k=H.get k)/\
   cz P d 284 (.ptr (a+2) x 0) b=A (d.set (a+2) (.row I 1 ((List.range V).map λk=>[dp dv (V+x) b (V+k)])))/\
   cN n V a (l0 S x q) aT (dp dv (V+x) b) es (d.set (a+2) (.row I 1 ((List.range V).map λk=>[dp dv (V+x) b (V+k)])))/\Fr V a dv (dp dv (V+x) b) H (d.set (a+2) (.row I 1 ((List.range V).map λk=>[dp dv (V+x) b (V+k)]))):=by
 have E:=h.lt;have T:=h.hB;obtain⟨b,d,a6,bd,bo,bO,b3,cm⟩:=aZ.qU (K:=zd) (ok:=ba) (ok':=ba) vx (h.q x aF) E (aw.refl H) (a:=q) (cs:=iC q) rfl (λ_ _=>trivial) aa;have r:∀k,k<a+7->d.get k=H.get k:=λk f=>bo.2 k f
 have y:=(r (a+2) aa).trans h.iB;have N:=bd.az.one;have B:=dn N;have rs:((List.range V).map λk=>[dv (V+k)]).set x [b]=(List.range V).map λk=>[dp dv (V+x) b (V+k)]:=by
  rw[GQ aF (λk=>dv (V+k)) b];grind[dp]
 have R:cz P d 284 (.ptr (a+2) x 0) b=A (d.set (a+2) (.row I 1 ((List.range V).map λk=>[dp dv (V+x) b (V+k)]))):=by
  rw[fb (n:=1) aG y (e:=[dv (V+x)]) al al al b0,B,<-rs];rfl
 have s:∀k,k<H.next->k≠a+2->dx (dv (V+x))≠A k->(d.set (a+2) (.row I 1 ((List.range V).map λk=>[dp dv (V+x) b (V+k)]))).get k=H.get k:=λk f p ar=>by
  rw[ae.b_ aa];exact b3 k f (λL n c e=>by rintro rfl;rw[e]at ar;exact ar rfl)
 have i:∀k,k<a+7->k≠a+2->(d.set (a+2) (.row I 1 ((List.range V).map λk=>[dp dv (V+x) b (V+k)]))).get k=H.get k:=λk f p=>s k aa p λe=>by have:=(h.j6 (o:=V+x) aa e).1;omega
 have U:∀o L,o<=2*V->o≠V+x->dx (dv o)=A L->(d.set (a+2) (.row I 1 ((List.range V).map λk=>[dp dv (V+x) b (V+k)]))).get L=H.get L:=λo L aX G e=>by
  have ar:=h.j6 aX e;exact s L ar.2 aa λm=>G (h.ht _ _ L aX aa e m)
 have Q:∀L,dx b=A L->dx (dv (V+x))=A L\/∀g6,g6<=2*V->dx (dv g6)≠A L:=by
  intro L e;rcases cm with j|⟨O,j⟩
  ·grind
  ·rw[j]at e;cases e;exact .inr λg6 M m=>by have:=(h.j6 M m).2;omega
 refine⟨b,d,a6,(r _ aa).trans h.bR,by simp;omega,λk f z ar=>b3 k f (λL n c e=>by rintro rfl;exact ar (V+x) aa (by rw[e];rfl)),R,?_,by simp;omega,λk f z ar=>⟨al,λo aX e=> ?_⟩⟩
 ·exact {
   bR:=by rw[i _ aa aa,Tm _ _ _ _ _ aa];exact h.bR
   cp:=by rw[i _ aa aa];exact h.cp
   gd:=by rw[i _ aa aa,AU (λv l=>fm _ _ aa)];exact h.gd
   iB:=ae.cO aa
   hy:=by rw[i _ aa aa];exact h.hy
   ed:=by rw[i _ aa aa];exact h.ed
   cC:=by rw[i _ aa aa];exact h.cC
   cy:=h.cy,aS:=h.aS,hB:=by grind[l0],ls:=h.ls,lw:=h.lw
   g:=λv l=>by
    rw[fm _ _ aa];exact(h.g v l).frame fy al
   q:=λv l=>by
    rw[l0,QG aa];by_cases e:v=x
    ·subst e;rw[if_pos rfl,hl];exact bd.frame p6 λL u=>by
      rw[ae.b_];have:=(bd.jy u).1;omega
    ·rw[if_neg e,fm _ _ aa];exact(h.q v l).frame p6 al
   w:=by rw[fm _ _ aa];exact h.w.frame fy al
   wn:=by rw[fm _ _ aa];exact h.wn
   ht:=Ff h.ht aa Q
   perm:=h.perm,kp:=h.kp,ko:=h.ko,j3:=h.j3,ke:=h.ke,kd:=h.kd,wt:=h.wt,fk:=h.fk}
 ·by_cases t:o=V+x
  ·subst t;rw[hl]at e;rcases cm with j|⟨O,j⟩
   ·grind
   ·rw[j]at e;cases e;omega
  grind[fm]
theorem SF{c:bt}{x y m:Nat}(aA:cZ c=[D F 5,D F x,D F y,D F 0])(aF:x<m)(K:y<m)(E:V=n+m*8)(d:V<=1000000){zI:Nat}{N:Nat}:∀(j k q:Nat) (S:bI) (aT:List Int) (dv:Nat->af) (es:List (Nat×Nat)) (H:ae),k+j=8->j<q->cN n V a S aT dv es H->
  H.get zI=A (.row I 4 [cZ c])->(zI<a\/a+7<=zI)->(∀o,o<=2*V->dx (dv o)≠A zI)->
  W (wU (aK P aD) N q (.ptr (a+6) 0 0) (.ptr zI 0 0) (D F 8) (D F k) H) λr H'=>r= .tuple []/\So n V a (nd n S x y ((List.range 8).drop k)) (λ_=>False) dv H H'
 |_,_,0,_,_,_,_,_,_,hm,_,_,_,_=>aa
 |0,k,q+1,S,aT,dv,es,H,G,_,h,U,b,s=>by
  have Y:¬(k:Int)<8:=aa;refine bF @wU.eq_2 @BT.eq_1 ?_;rw[List.drop_of_length_le al];exact aE.2 ⟨rfl,aT,dv,es,h,λ_ f=>f.elim,.refl _ _ _ _⟩
 |j+1,k,q+1,S,aT,dv,es,H,G,hm,h,U,b,s=>by
  have ab:=h.lt;have L:=ae.bm U;have on:=SF aA aF K E d (zI:=zI) (N:=N) j (k+1) q;have g:dk n x k<V:=by unfold dk;omega
  have i:dk n y k<V:=by unfold dk;omega
  have u:(List.range 8).drop k=k::(List.range 8).drop (k+1):=by
   grind[List.drop_eq_getElem_cons]
  rw[u,nd];have l:=gq U aA;refine bT @wU.eq_2 @BT.eq_1 l ?_;refine dK (q_ h.bR aa) ?_;refine bK l ?_;refine dK (q_ h.bR aa) ?_;refine cB (vd h d g i) ?_;rintro _ H1 ⟨rfl,ad,q4,T,ah,_,f1⟩;refine⟨f1.1,?_⟩;obtain⟨z,M⟩:=f1.2 zI L b s;have p:=z.trans U;have e:=gq p aA;refine bF l e ?_;refine dK (q_ ah.bR aa) ?_;refine bK e ?_;refine dK (q_ ah.bR aa) ?_;refine cB (vd ah d i g) ?_;rintro _ t ⟨rfl,O,hv,v,ai,_,f2⟩;refine⟨f2.1,?_⟩;obtain⟨B,FZ⟩:=f2.2 zI (by have:=f1.1;omega) b M;refine bK e ?_;refine(on _ O hv v t aa aa ai (B.trans p) b FZ).mono ?_;rintro r R ⟨rfl,Q,oE,w,ay,_,f3⟩;exact⟨rfl,Q,oE,w,ay,λ_ f=>f.elim,(f1.trans f2).trans f3⟩
theorem VY{m:Nat}(h:cN n V a S aT dv es H)(O:V=n+m*8)(s:V<=1000000)(hm:m<=60){c:bt}(hw:c.wf n m)(Y:∀v,(S.q v).length<=900000000):W (aK P aD 180 [.ptr (a+6) 0 0,.agg (cZ c)] H) λr H'=>r= .tuple []/\So n V a (sM n S c) (λ_=>False) dv H H':=by
 refine afz 9 ?_;have L:=aw.push H (.row I 4 [cZ c]);have g:=ae.a1 H (.row I 4 [cZ c]);have b:=h.aC L;have U:=h.lt;have u:∀o,o<=2*V->dx (dv o)≠A H.next:=λo aX e=>by have:=(h.j6 aX e).2;omega
 have j:∀{K:bI} {keep:Nat->Prop} {H':ae},So n V a K keep dv (H.push (.row I 4 [cZ c])) H'->So n V a K (λ_=>False) dv H H':=λ⟨wk',N,es',Q,ab,R⟩=>⟨wk',N,es',Q,λ_ f=>f.elim,(Fr.aC L).trans R⟩
 cases c with
 |base x y=>
  have l:=gq g rfl;simp-implicitDefEqProofs(disch:=try exact aY)only[rM,reduceAdd,reduceLeDiff,reduceIte,bB,ju,l,Int.reduceBEq,ahL _ _ (show y<64 by have:=hw.2;omega)];refine cB (FE b s (v:=x) (x:=1<<<y) (by have:=hw.1;omega) ?_ (h.fk x)) ?_
  ·rw[Nat.shiftLeft_eq,Nat.one_mul];exact Nat.pow_lt_pow_right aa (by have:=hw.2;omega)
  rintro _ H1 ⟨rfl,q⟩;exact⟨q.choose_spec.choose_spec.choose_spec.2.2.1,aE.2 ⟨rfl,j q⟩⟩
 |copy x y=>
  have l:=gq g rfl;simp-implicitDefEqProofs(disch:=try exact aY)only[rM,reduceAdd,reduceLeDiff,reduceIte,bB,ju,l,Int.reduceBEq];refine cB (vd b s (x:=y) (y:=x) (by have:=hw.2;omega) (by have:=hw.1;omega)) ?_;rintro _ H1 ⟨rfl,q⟩;exact⟨q.choose_spec.choose_spec.choose_spec.2.2.1,aE.2 ⟨rfl,j q⟩⟩
 |load x y f=>
  have l:=gq g rfl;have d:y<V:=by have:=hw.1;have:=hw.2.1;omega
  obtain⟨T,M,a6,p,bo,bO,st,ay,f3⟩:=b.KK d ⟨J,x,f⟩ al;have k:ey P 286 [(0,D F 3),(1,D F (x:Nat)),(2,D F (f:Nat))]=A (.agg (iC ⟨J,x,f⟩)):=EV rfl rfl rfl;have az:=ng vx (H.push (.row I 4 [cZ (.load x y f)])).next (v:= .agg (iC ⟨J,x,f⟩)) (cs:=iC ⟨J,x,f⟩) rfl rfl rfl
  have pp:=aw.push (H.push (.row I 4 [cZ (.load x y f)])) (.row I 3 [iC ⟨J,x,f⟩]);have l2:=gq (pp.get g) rfl;have w:=gq ((bO H.next aW aa u).trans g) rfl;have t:=(pp.get b.bR);have z:aJ P (H.push (.row I 4 [cZ (.load x y f)])) 284 (.ptr (a+2) y 0)=A (dv (V+y)):=b.vt d;have B:=(b.aC pp).vt d;have G:=dD (b.q y d).az;have E:∀l i n e c,bG (A (.az l i n e c)) (.az l i n e c)=true:=λl i n e c=>by simp[bG,af.beq]
  simp only[kT]at az a6 bo;simp-implicitDefEqProofs(disch:=try exact aY)only[rM,reduceAdd,reduceLeDiff,reduceIte,bB,ju,l,Int.reduceBEq,gM b.bR,mQ F8 d,z,k,az,a6,gM p,w,l2,gM t,B,st,G,E,fz,Bool.and_self,Bool.and_true];exact aE.2 ⟨rfl,j (keep:=λ_=>False) ⟨aT,_,es,ay,λ_ f=>f.elim,f3⟩⟩
 |store x y f=>
  have l:=gq g rfl;have d:x<V:=by have:=hw.1;omega
  obtain⟨T,M,a6,p,bo,bO,st,ay,f3⟩:=b.KK d ⟨I,y,f⟩ al;have k:ey P 286 [(0,D F 4),(1,D F (y:Nat)),(2,D F (f:Nat))]=A (.agg (iC ⟨I,y,f⟩)):=EV rfl rfl rfl;have az:=ng vx (H.push (.row I 4 [cZ (.store x y f)])).next (v:= .agg (iC ⟨I,y,f⟩)) (cs:=iC ⟨I,y,f⟩) rfl rfl rfl
  have pp:=aw.push (H.push (.row I 4 [cZ (.store x y f)])) (.row I 3 [iC ⟨I,y,f⟩]);have l2:=gq (pp.get g) rfl;have w:=gq ((bO H.next aW aa u).trans g) rfl;have t:=(pp.get b.bR);have z:aJ P (H.push (.row I 4 [cZ (.store x y f)])) 284 (.ptr (a+2) x 0)=A (dv (V+x)):=b.vt d;have B:=(b.aC pp).vt d;have G:=dD (b.q x d).az;have E:∀l i n e c,bG (A (.az l i n e c)) (.az l i n e c)=true:=λl i n e c=>by simp[bG,af.beq]
  simp only[kT]at az a6 bo;simp-implicitDefEqProofs(disch:=try exact aY)only[rM,reduceAdd,reduceLeDiff,reduceIte,bB,ju,l,Int.reduceBEq,gM b.bR,mQ F8 d,z,k,az,a6,gM p,w,l2,gM t,B,st,G,E,fz,Bool.and_self,Bool.and_true];exact aE.2 ⟨rfl,j (keep:=λ_=>False) ⟨aT,_,es,ay,λ_ f=>f.elim,f3⟩⟩
 |same x y=>
  have l:=gq g rfl;simp-implicitDefEqProofs(disch:=try exact aY)only[rM,reduceAdd,reduceLeDiff,reduceIte,bB,ju,l,Int.reduceBEq,gM b.bR];refine(SF (c:= .same x y) rfl hw.1 hw.2 O s (zI:=H.next) 8 0 9 S aT dv es _ aa aa b g aa u).mono ?_;rintro r H' ⟨rfl,q⟩;exact⟨rfl,j q⟩
end
end
section
open Go.a2
set_option maxRecDepth 2000
def OJ(S:bI)(v u:Nat):(ji S v).q u=S.q u:=by unfold ji;split<;>rfl
def acu(S:bI)(v u:Nat):(ji S v).g u=S.g u:=by unfold ji;split<;>rfl
def NW(S:bI)(v x u:Nat):(gJ S v x).q u=S.q u:=by
 unfold gJ;split
 ·rfl
 ·rw[OJ];rfl
theorem abm(S:bI)(v x u:Nat):(gJ S v x).g u=S.g u:=by
 unfold gJ;split
 ·rfl
 ·rw[acu];rfl
theorem sY(S:bI)(x y u:Nat):(iA S x y).q u=S.q u:=by
 unfold iA;split
 ·rfl
 ·rw[NW];rfl
def Vh(n t:Nat)(S:bI)(q:a2.Ask)(u:Nat):(oz n t S q).q u=S.q u:=by
 grind[oz,sY]
theorem EK(n t:Nat):∀(qs:List a2.Ask) (S:bI) (u:Nat),(lW n t qs S).q u=S.q u
 |[],_,_=>rfl
 |q::qs,S,u=>by rw[lW,EK n t qs,Vh]
section
variable {n V a:Nat}{S:bI}{aT:List Int}{dv:Nat->af}{es:List (Nat×Nat)}{H:ae}
def abM{q:a2.Ask}{L:Nat}(h:H.get L=A (.row I 3 [iC q])):aJ P H 3 (.ptr L 0 0)=A (D F (if q.fE then 3 else 4))/\aJ P H 3 (.ptr L 0 1)=A (D F (q.o:Nat))/\aJ P H 3 (.ptr L 0 2)=A (D F (q.f:Nat)):=by
 rw[iC]at h;exact kP h
theorem aiA{q:a2.Ask}{L:Nat}{r:List af}(h:H.get L=A (.row I 3 [r]))(au:r.length=3:=by rfl):cz P H 286 (.ptr L 0 0) (.agg (iC q))=A (H.set L (.row I 3 [iC q])):=by
 rw[fb (n:=3) aG h rfl rfl (by simp[iC,af.cells,af.one]) b0];grind[iC,af.cells,gl,List.drop_of_length_le]
theorem Kv{qs:List a2.Ask}{v t m:Nat}(B:v<V)(a_:t<m)(O:V=n+m*8)(g:V<=1000000)(z:∀q∈qs,q.o<V/\q.f<8)(R:qs.length<=1000000000){N:Nat}:∀(j k r:Nat) (S:bI) (aT:List Int) (dv:Nat->af) (es:List (Nat×Nat)) (H:ae),k+j=qs.length->j<r->cN n V a S aT dv es H->S.q v=qs->
  W (ua (aK P aD) N r (.ptr (a+6) 0 0) (D F t) (dv (V+v)) (D F qs.length) (D F k) H) λr H'=>r= .tuple []/\So n V a (lW n t (qs.drop k) S) (λo=>V<=o/\o<2*V) dv H H'
 |_,_,0,_,_,_,_,_,_,hm,_,_=>aa
 |0,k,r+1,S,aT,dv,es,H,Q,_,h,aH=>by
  have s:¬(k:Int)<(qs.length:Int):=aa;refine bF @ua.eq_2 @xh.eq_1 ?_;rw[List.drop_of_length_le aa];exact aE.2 ⟨rfl,aT,dv,es,h,λ_ _=>rfl,.refl _ _ _ _⟩
 |j+1,k,r+1,S,aT,dv,es,H,Q,hm,h,aH=>by
  have s:(k:Int)<(qs.length:Int):=aa;have y:k<qs.length:=aa;have on:=Kv B a_ O g z R (N:=N) j (k+1) r;have ar:=h.q v B;rw[aH]at ar;obtain⟨p,cs,E,G,rfl⟩:=ar.az.zo (K:=zd) vx Tr (j:=(k:Int)) (a:=qs[k]) aa al;obtain⟨aX,aB⟩:=z _ (List.getElem_mem y);have u:=aw.push H (.row I 3 [iC qs[k]]);have ah:=h.aC u;have st:=aiA (q:=qs[k]) (ae.a1 H (.row I 3 [[D F 0,D F 0,D F 0]]));have l:=abM (ae.a1 H (.row I 3 [iC qs[k]]));have ff:dk n t qs[k].f<V:=by unfold dk;omega
  have L:=e8 (show k<=1000000000 by omega);rw[List.drop_eq_getElem_cons y,lW,oz];cases x:qs[k].fE with
  |true=>
   rw[x]at l;simp-implicitDefEqProofs(disch:=try exact aY)only[ua,xh,reduceAdd,reduceLeDiff,reduceIte,bB,s,decide_true,E,G _ (aw.refl _),st,ae.gD,l,Int.reduceBEq];refine dK (q_ ah.bR aa) ?_;refine bK l ?_;refine cB (vd ah g ff aX) ?_;rintro _ H1 ⟨rfl,wk',d,es',ai,b,f2⟩;refine⟨f2.1,?_⟩;refine bT @H_.eq_1 l L ?_;have c:=on _ wk' d es' H1 aa aa ai (by grind[sY]);rw[b (V+v) ⟨aa,aa⟩]at c;refine c.mono ?_;rintro r M ⟨rfl,w,oE,e,ay,i,f3⟩;exact⟨rfl,w,oE,e,ay,λo aX=>(i o aX).trans (b o aX),((Fr.aC u).trans f2).trans f3⟩
  |false=>
   rw[x]at l;simp only[Bool.false_eq_true,if_false]at l;simp-implicitDefEqProofs(disch:=try exact aY)only[ua,xh,reduceAdd,reduceLeDiff,reduceIte,bB,s,decide_true,E,G _ (aw.refl _),st,ae.gD,l,Int.reduceBEq];refine dK (q_ ah.bR aa) ?_;refine bK l ?_;refine cB (vd ah g aX ff) ?_;rintro _ H1 ⟨rfl,wk',d,es',ai,b,f2⟩;refine⟨f2.1,?_⟩;refine bT @H_.eq_1 l L ?_;have c:=on _ wk' d es' H1 aa aa ai (by grind[sY]);rw[b (V+v) ⟨aa,aa⟩]at c;refine c.mono ?_;rintro r M ⟨rfl,w,oE,e,ay,i,f3⟩;exact⟨rfl,w,oE,e,ay,λo aX=>(i o aX).trans (b o aX),((Fr.aC u).trans f2).trans f3⟩
def Vi{v t m:Nat}(h:cN n V a S aT dv es H)(b:v<V)(a_:t<m)(c:V=n+m*8)(d:V<=1000000)(g:∀q∈S.q v,q.o<V/\q.f<8)(e:(S.q v).length<=1000000000):W (aK P aD 225 [.ptr (a+6) 0 0,D F v,D F t] H) λr H'=>r= .tuple []/\So n V a (lW n t (S.q v) S) (λo=>V<=o/\o<2*V) dv H H':=by
 refine afX ((S.q v).length+1) ?_;refine dd @H9.eq_1 (gM h.bR) (im F8 b) (h.vt b) ((h.q v b).az.bf vx) ?_;exact Kv b a_ c d g e (S.q v).length 0 ((S.q v).length+1) S aT dv es H aa aa h rfl
structure Own(V a:Nat)(dv:Nat->af)(H:ae)(l:List Int)(x:af):Prop where
 b:∃B,aZ aN B ba H l x
 o:∀L,dx x=some L->L<H.next/\(L<a\/a+7<=L)/\∀o,o<=2*V->dx (dv o)≠some L
def Own.ec{b:Nat->af}{H':ae}{l:List Int}{x:af}(h:Own V a dv H l x)(f:Fr V a dv b H H'):Own V a b H' l x:=by
 obtain⟨⟨B,c⟩,aX⟩:=h;refine⟨⟨B,c.frame fy λL e=> ?_⟩,λL e=> ?_⟩
 ·obtain⟨ah,ai,ay⟩:=aX L e;exact(f.2 L ah ai ay).1
 ·obtain⟨ah,ai,ay⟩:=aX L e;exact⟨Nat.lt_of_lt_of_le ah f.1,ai,(f.2 L ah ai ay).2⟩
theorem KJ{ts:List Nat}{v m:Nat}{x:af}(u:v<V)(i:V=n+m*8)(l:V<=1000000)(s:∀t∈ts,t<m)(ar:ts.length<=1000000000){L0:af->ae->O}{Q:af->ae->Prop}{N:Nat}:∀(j k r:Nat) (S:bI) (aT:List Int) (dv:Nat->af) (es:List (Nat×Nat)) (H:ae),k+j=ts.length->j<r->cN n V a S aT dv es H->Own V a dv H (aO ts) x->(∀q∈S.q v,q.o<V/\q.f<8)->(S.q v).length<=1000000000->
  (∀c wk' d es' H',cN n V a c wk' d es' H'->Fr V a dv d H H'->c=qA n v (ts.drop k) S->W (BX (aK P aD) N L0 (.ptr (a+6) 0 0) (D F v) H') Q)->
  W (wW (aK P aD) N L0 r (.ptr (a+6) 0 0) (D F v) x (D F ts.length) (D F k) H) Q
 |_,_,0,_,_,_,_,_,_,hm,_,_,_,_,_=>aa
 |0,k,r+1,S,aT,dv,es,H,E,_,h,aF,_,_,fin=>by
  have T:¬(k:Int)<(ts.length:Int):=aa;refine bF @wW.eq_2 @BW.eq_1 ?_;exact fin S aT dv es H h (.refl _ _ _ _) (by rw[List.drop_of_length_le aa];rfl)
 |j+1,k,r+1,S,aT,dv,es,H,E,hm,h,aF,K,G,fin=>by
  have g:k<ts.length:=aa;have on:=KJ (x:=x) u i l s ar (L0:=L0) (Q:=Q) (N:=N) j (k+1) r;obtain⟨B,z⟩:=aF.b;obtain⟨p,L,M⟩:=z.az.int (j:=(k:Int)) (a:=(ts[k]:Int)) aa (by simp[aO,g]);rw[List.drop_eq_getElem_cons g]at fin;refine cu @wW.eq_2 @BW.eq_1 L M ?_;refine cB (Vi h u (s _ (List.getElem_mem g)) i l K G) ?_;rintro _ H1 ⟨rfl,wk',d,es',ah,_,f1⟩;refine⟨f1.1,?_⟩;refine bM ?_;refine on _ wk' d es' H1 aa aa ah (aF.ec f1) (by grind[EK]) (by grind[EK]) λc R hv y w ai f2 e=>fin c R hv y w ai (f1.trans f2) e
theorem MZ{bs:List Nat}{v:Nat}(f:v<V)(l:V<=1000000)(m:∀b∈bs,b<V)(ar:bs.length<=1000000000){L0:af->ae->O}{Q:af->ae->Prop}{N:Nat}:∀(j k r:Nat) (S:bI) (aT:List Int) (dv:Nat->af) (es:List (Nat×Nat)) (H:ae),k+j=bs.length->j<r->cN n V a S aT dv es H->S.g v=bs->
  (∀c wk' d es' H',cN n V a c wk' d es' H'->Fr V a dv d H H'->c=mK v (bs.drop k) S->W (L0 (.ptr (a+6) 0 0) H') Q)->
  W (wV (aK P aD) N L0 r (.ptr (a+6) 0 0) (D F v) (dv v) (D F bs.length) (D F k) H) Q
 |_,_,0,_,_,_,_,_,_,hm,_,_,_=>aa
 |0,k,r+1,S,aT,dv,es,H,t,_,h,aH,fin=>by
  have z:¬(k:Int)<(bs.length:Int):=aa;refine bF @wV.eq_2 @BV.eq_1 ?_;exact fin S aT dv es H h (.refl _ _ _ _) (by rw[List.drop_of_length_le aa];rfl)
 |j+1,k,r+1,S,aT,dv,es,H,t,hm,h,aH,fin=>by
  have i:k<bs.length:=aa;have on:=MZ f l m ar (L0:=L0) (Q:=Q) (N:=N) j (k+1) r;have o:=h.g v f;rw[aH]at o;obtain⟨p,u,w⟩:=o.az.int (j:=(k:Int)) (a:=(bs[k]:Int)) aa (by simp[aO,i]);rw[List.drop_eq_getElem_cons i]at fin;refine bb @wV.eq_2 @BV.eq_1 u w (gM h.bR) (ag (im rr f) (h.rl f)) ?_;refine cB (FE h l (m _ (List.getElem_mem i)) (h.fk v) (h.fk _)) ?_;rintro _ H1 ⟨rfl,wk',d,es',ah,y,f1⟩;refine⟨f1.1,?_⟩;refine bM ?_;have B:=on _ wk' d es' H1 aa aa ah (by grind[abm]) λc x hv s q ai f2 e=>fin c x hv s q ai (f1.trans f2) e
  grind
end
end
section
open Go.a2
set_option maxRecDepth 2000
def VB{n m V:Nat}{l:List bt}{zX:Nat->Prop}{Y:Nat->Nat->Prop}{S:bI}(i:eC n m l zX Y S)(a:gy n m l)(b:V=n+m*8)(v:Nat):∀q∈S.q v,q.o<V/\q.f<8:=by
 intro q aH;rcases i.qs v q aH with⟨_,h⟩|⟨_,h⟩
 ·have:=a _ h;exact⟨by have:=this.1;omega,this.2.2⟩
 ·have:=a _ h;exact⟨by have:=this.2.1;omega,this.2.2⟩
section
variable {n V a m:Nat}{l:List bt}{S:bI}{aT:List Int}{dv:Nat->af}{es:List (Nat×Nat)}{H:ae}
theorem Nk(E:gy n m l)(O:V=n+m*8)(ak:0<V)(Q:V<=1000000)(hm:m<=60){N:Nat}(a1:V+65<N):∀(r:Nat) (S:bI) (aT:List Int) (dv:Nat->af) (es:List (Nat×Nat)) (H:ae),S.M<r->cN n V a S aT dv es H->lR n m l S->(∀v,(S.q v).length<=1000000000)->
  W (BY (aK P aD) N r (.ptr (a+6) 0 0) H) λr H'=>r= .tuple []/\∃B wk' ab es',cN n V a B wk' ab es' H'/\lR n m l B/\sn S B/\B.work=[]/\Fr V a dv ab H H'
 |0,_,_,_,_,_,au,_,_,_=>aa
 |r+1,S,aT,dv,es,H,au,h,i,bt=>by
  have hlen:W (aK P aD 223 [dv (2*V)] H) λr H'=>r= D F (aT.length:Nat)/\H'=H:=by
   refine G5 0 ?_;refine bF @xg.eq_1 (h.w.az.bf m1) ?_;grind[aE]
  have on:=Nk E O ak Q hm a1 r;refine bT @BY.eq_2 @HK.eq_1 (gM h.bR) ?_;refine dK hlen ?_;by_cases ao:aT=[]
  ·have hw:S.work=[]:=by
    have:=h.perm.length_eq;grind[aO]
   subst ao;have ad:¬(0:Int)<((([]:List Int).length:Nat):Int):=aW;refine bM ?_;exact aE.2 ⟨rfl,S,[],dv,es,h,i,⟨λ_ _ h=>h,λ_ _ h=>h,λ_=>rfl⟩,hw,.refl _ _ _ _⟩
  ·have ad:(0:Int)<((aT.length:Nat):Int):=by grind[List.length_pos_iff]
   have i1:∀l i c,ox P 288 (.ptr l i c)=A (.iface 288 (.ptr l i c)):=λl i c=>aG
   refine bF ad i1 ?_;have bu:=h.Ul;have bp:=h.lt;refine cB (aal h.w h.wn aa h.bR rfl rfl aa ao) ?_;rintro _ f ⟨bh,wk',wv',rfl,pm,q⟩;refine⟨q.next,?_⟩;have an:bh∈aO S.work:=h.perm.mem_iff.1 (pm.mem_iff.1 aW);simp only[aO,List.mem_map]at an;obtain⟨v,T,rfl⟩:=an;have d:v<V:=h.kd v T;have a6:wk'.Perm (aO (S.work.erase v)):=by
    have aI:=pm.trans h.perm;have aL:(aO S.work).Perm ((v:Int)::aO (S.work.erase v)):=(List.perm_cons_erase T).map _;exact(List.perm_cons _).1 (aI.trans aL)
   have aA:sD P 3 I (.iface 3 (D F (v:Nat)))=A (D F (v:Nat)):=aG;have ai:=h.aH ak q a6 (h.ke.erase v) (λu hu=>h.kd u (List.mem_of_mem_erase hu)) (λu hu e hm=>h.wt u hu e (List.mem_of_mem_erase hm));have f2:=h.M_ q;have be:=yY (b':=false) ai.cC (ai.JO d);have br:=h.lw;have ay:=ai.SO (v:=v) I (λu hu e=>by
    by_cases am:u=v
    ·subst am;exact h.ke.not_mem_erase
    ·rw[JM al,if_neg am]at e;exact ai.wt u hu e)
   have f3:=f2.trans (Fr.set (dv:=dp dv (2*V) wv') f (c:=5) aa (.row I 1 (da (S.waits.set v I))));have bm:({S with work:=S.work.erase v,waits:=S.waits.set v I}:bI)=kX S v:=rfl;have z:cN n V a (kX S v) wk' (dp dv (2*V) wv') es (f.set (a+5) (.row I 1 (da (S.waits.set v I)))):=ay;have bd:S.s v|||qE (S.a v) (S.s v)=S.s v|||S.a v:=adB (h.fk v) (by
    have a4:=h.ls;have:S.s v=S.a v&&&S.s v:=by
     apply Nat.eq_of_testBit_eq;intro j;rw[Nat.testBit_and];cases R:(S.s v).testBit j with
     |false=>simp
     |true=>rw[i.sle v j R];rfl
    rw[this];exact Nat.lt_of_le_of_lt Nat.and_le_left (h.fk v))
   have a8:S.s v<2^64:=by
    have:S.s v=S.a v&&&S.s v:=by
     apply Nat.eq_of_testBit_eq;intro j;rw[Nat.testBit_and];cases R:(S.s v).testBit j with
     |false=>simp
     |true=>rw[i.sle v j R];rfl
    rw[this];exact Nat.lt_of_le_of_lt Nat.and_le_left (h.fk v)
   have a4:=h.ls;have gs:(kX S v).seen[v]? =A (S.s v):=by
    grind[bI.s]
   have bg:cz P (f.set (a+5) (.row I 1 (da (S.waits.set v I)))) 251 (.ptr (a+3) v 0) (D .u64 ((S.s v|||S.a v:Nat):Int))=A ((f.set (a+5) (.row I 1 (da (S.waits.set v I)))).set (a+3) (.row I 1 (hh (S.seen.set v (S.s v|||S.a v))))):=by
    rw[fb (n:=1) aG z.hy (zv gs) rfl rfl aa,<-KC];rfl
   have aM:cN n V a (nf (kX S v) v) wk' (dp dv (2*V) wv') es ((f.set (a+5) (.row I 1 (da (S.waits.set v I)))).set (a+3) (.row I 1 (hh (S.seen.set v (S.s v|||S.a v))))):=z.ahG v (S.s v|||S.a v);have f4:=f3.trans (Fr.set (dv:=dp dv (2*V) wv') _ (c:=3) aa (.row I 1 (hh (S.seen.set v (S.s v|||S.a v)))));have ba:aJ P (f.set (a+5) (.row I 1 (da (S.waits.set v I)))) 251 (.ptr a v 0)=A (D .u64 (S.a v:Nat)):=z.rl d;have bb:aJ P (f.set (a+5) (.row I 1 (da (S.waits.set v I)))) 251 (.ptr (a+3) v 0)=A (D .u64 (S.s v:Nat)):=z.abK d;simp-implicitDefEqProofs(disch:=try exact aY)only[reduceAdd,reduceLeDiff,reduceIte,bB,aA,gM ai.bR,gM z.bR,mQ pW d,mQ rr d,be,ba,bb,Va,GD _ _ a8 (Jz _ _),bd,bg]
   have bq:=aM.lt;refine e2 (F4 (Jz (S.a v) (S.s v))) λx U G ap=> ?_
   have aV:=aM.aC ap;have f5:=f4.trans (Fr.aC ap);have aN:Go.a2.bits (qE (S.a v) (S.s v))=ln S v:=V6 _ _;rw[aN]at G;have aF:Own V a (dp dv (2*V) wv') U (aO (ln S v)) x:=by
    refine⟨⟨_,G⟩,λL e=> ?_⟩;have:=G.jy e;refine⟨this.2,aa,λo aX aB=> ?_⟩;have:=(aM.j6 aX aB).2;omega
   have a9:∀t∈ln S v,t<m:=by
    intro t a_;simp only[ln,List.mem_filter,Bool.and_eq_true]at a_;exact(i.sound v t a_.2.1).site E
   have bn:(ln S v).length<=64:=Nat.le_trans (List.length_filter_le _ _) aW;have a5:bD P .empty .len [30] [x]=A (D F ((ln S v).length:Nat)):=by
    have:=G.az.len bV (H0:= .empty);grind[aO]
   refine bK a5 ?_;have a7:(nf (kX S v) v).q v=S.q v:=rfl;refine KJ (n:=n) (a:=a) (m:=m) d O Q a9 aa (ln S v).length 0 N _ wk' _ es U aa aa aV aF (by rw[a7];exact VB i E O v) al ?_;intro p bi pE aR ar k f6 ah;rw[List.drop_zero]at ah;have aP:p=pY n S v:=ah;have bo:=k.Nf v;have a3:bD P .empty .len [30] [pE v]=A (D F ((p.g v).length:Nat)):=by
    have:=(k.g v d).az.len bV (H0:= .empty);grind[aO]
   refine dd @BX.eq_1 (gM k.bR) (im dJ d) (k.abL d) a3 ?_;refine MZ (bs:=p.g v) d Q (k.j3 v) aa (p.g v).length 0 N p bi pE aR ar aa aa k rfl ?_;intro Y bj pF aS av aZ f7 aj;rw[List.drop_zero,aP]at aj;have aQ:Y=D2 n S v:=aj;obtain⟨i7,y,bc⟩:=i.step E T;rw[<-aQ]at i7 y bc;refine(on Y bj pF aS av aa aZ i7 (λu=>by rw[y.q];grind)).mono ?_;rintro bv bl ⟨rfl,ax,bk,Fg,aU,a0,i8,K,pg,f8⟩;exact⟨rfl,ax,bk,Fg,aU,a0,i8,⟨λu s e=>K.a u s (y.a u s e),λu b e=>K.g u b (y.g u b e),λu=>(K.q u).trans (y.q u)⟩,pg,((f5.trans f6).trans f7).trans f8⟩
def aag(h:cN n V a S aT dv es H)(j:gy n m l)(d:V=n+m*8)(e:0<V)(f:V<=1000000)(hm:m<=60)(i:lR n m l S)(g:∀v,(S.q v).length<=1000000000):W (aK P aD 182 [.ptr (a+6) 0 0] H) λr H'=>r= .tuple []/\∃b wk' c es',cN n V a b wk' c es' H'/\lR n m l b/\sn S b/\b.work=[]/\Fr V a dv c H H':=by
 refine afB (S.M+V+66) ?_;refine bK @HJ.eq_1 ?_;exact Nk j d e f hm aa _ S aT dv es H aa h i g
