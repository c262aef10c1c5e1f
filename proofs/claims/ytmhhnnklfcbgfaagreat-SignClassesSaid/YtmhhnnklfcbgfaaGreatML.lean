/-
  Texts of one proof, laid together: Qa Qb Qc Qd Qe Qf Qg Qh Qi Qj Qk.
-/
import Derived.Test.YtmhhnnklfcbgfaaGreatMK
set_option linter.unusedVariables false
set_option linter.unusedSimpArgs false
set_option linter.defProp false
open Option renaming some→A,none→Z
open Bool renaming true→J,false→I
open Go.cw.af renaming int→D,bool→C
open Go.IntKind renaming i64→F
namespace Go.Proofs.YtmhhnnklfcbgfaaGreat
open Go.cw
open Nat (reduceAdd reduceLeDiff)
section
open Go.a_
set_option maxRecDepth 2000
theorem wrap_u64{x:Nat}(h:x<2^64):IntKind.u64.wrap (x:Int)=(x:Int):=by
 grind[IntKind.wrap,IntKind.bits,IntKind.signed]
def OA(x:Nat):BitVec.ofInt 64 (x:Int)=BitVec.ofNat 64 x:=by
 grind
def FJ(t:Nat)(z:Bool){x y:Nat}(aE:x<2^64)(a:y<2^64):bx P .or t z (D .u64 x) (D .u64 y)=A (D .u64 ((x|||y:Nat):Int)):=by
 have e:(BitVec.ofInt 64 (x:Int)|||BitVec.ofInt 64 (y:Int)).toNat=x|||y:=by
  grind
 show A (af.int .u64 (IntKind.u64.wrap (((BitVec.ofInt 64 (x:Int)|||BitVec.ofInt 64 (y:Int)).toNat:Nat):Int)))=_;rw[e,wrap_u64 ad]
def Jv(t:Nat)(z:Bool){x:Nat}(aE:x<2^64):bx P .and t z (D .u64 x) (D .u64 1)=A (D .u64 ((x%2:Nat):Int)):=by
 have e:(BitVec.ofInt 64 (x:Int)&&&BitVec.ofInt 64 (1:Int)).toNat=x%2:=by
  grind
 show A (af.int .u64 (IntKind.u64.wrap (((BitVec.ofInt 64 (x:Int)&&&BitVec.ofInt 64 (1:Int)).toNat:Nat):Int)))=_;grind[wrap_u64]
def RM(t:Nat)(z:Bool)(x:Nat):bx P .shr t z (D .u64 x) (D .u64 1)=A (D .u64 ((x/2:Nat):Int)):=by
 show A (af.int .u64 ((x:Int).fdiv (2^1)))=_;grind
def agE(t:Nat)(z:Bool){b:Nat}(a:b<64):bx P .shl t z (D .u64 1) (D F b)=A (D .u64 ((1<<<b:Nat):Int)):=by
 have ah:¬((b:Int)<0):=ad;show(if(b:Int)<0 then Z else A (af.int .u64 (IntKind.u64.wrap (1*2^(min ((b:Int).toNat) 64)))))=_;rw[if_neg ah,Int.toNat_natCast,Nat.min_eq_left ad];have ai:(1*2^b:Int)=((1<<<b:Nat):Int):=by grind[Nat.shiftLeft_eq]
 rw[ai,wrap_u64];rw[Nat.shiftLeft_eq,Nat.one_mul];exact Nat.pow_lt_pow_right ad a
def p_(x y:Nat):Nat:=(BitVec.ofNat 64 x&&& ~~~BitVec.ofNat 64 y).toNat
theorem IB(x y:Nat):p_ x y<2^64:=(BitVec.ofNat 64 x&&& ~~~BitVec.ofNat 64 y).isLt
def TX(t:Nat)(z:Bool)(x y:Nat):bx P .andNot t z (D .u64 x) (D .u64 y)=A (D .u64 ((p_ x y:Nat):Int)):=by
 show A (af.int .u64 (IntKind.u64.wrap (((BitVec.ofInt 64 (x:Int)&&& ~~~BitVec.ofInt 64 (y:Int)).toNat:Nat):Int)))=_;rw[OA,OA];exact congrArg (λz=>A (af.int .u64 z)) (wrap_u64 ad)
theorem J8(x y i:Nat)(aP:i<64):(p_ x y).testBit i=(x.testBit i&& !y.testBit i):=by
 grind[p_,BitVec.testBit_toNat,BitVec.getLsbD_ofNat]
def US(x y:Nat):Go.a_.bits (p_ x y)=(List.range 64).filter λt=>x.testBit t&& !y.testBit t:=by
 grind[Go.a_.bits,List.filter_congr,J8]
def aco{x y:Nat}(aE:x<2^64)(a:y<2^64):y|||p_ x y=y|||x:=by
 apply Nat.eq_of_testBit_eq;intro i;rw[Nat.testBit_or,Nat.testBit_or];by_cases aP:i<64
 ·grind[J8]
 ·have ah:∀{z:Nat},z<2^64->z.testBit i=false:=λh=>Nat.testBit_lt_two_pow (Nat.lt_of_lt_of_le h (Nat.pow_le_pow_right ad ad))
  grind[IB]
section
variable {H:ae}{ok:Nat->Prop}
theorem Nv{x:Nat}(aE:x<2^64){B:Nat}{N:Nat}:∀(j k m:Nat) (H:ae) (v:af),k+j=64->j<m->aY aN B bb H (aQ ((List.range k).filter (x.testBit ·))) v->B<=H.next->
  W (q_ (aK P aG) N m (D .u64 ((x>>>k:Nat):Int)) v (D F k) H) λr H'=>aY aN B bb H' (aQ (Go.a_.bits x)) r/\cl B H H'
 |_,_,0,_,_,_,hm,_,_=>ad
 |0,k,m+1,H,v,t,_,aw,f=>by
  have e:k=64:=ad;subst e;have s:x>>>64=0:=ad;have b:((((0:Nat):Int)) != 0)=false:=rfl;rw[s];refine cv @q_.eq_2 @tj.eq_1 @wa.eq_1 b ?_;exact aD.2 ⟨aw,.refl _ _⟩
 |j+1,k,m+1,H,v,t,hm,aw,f=>by
  have h:x>>>k<2^64:=Nat.lt_of_le_of_lt (by rw[Nat.shiftRight_eq_div_pow];exact Nat.div_le_self _ _) aE;have aT:=fB (show k<=1000000000 by omega);have l:x>>>k/2=x>>>(k+1):=by rw[Nat.shiftRight_succ]
  have ar:(List.range (k+1)).filter (x.testBit ·)=(List.range k).filter (x.testBit ·)++(if x.testBit k then[k]else[]):=by
   grind[List.range_succ]
  have G:x.testBit k=decide (x>>>k%2=1):=by
   grind[Nat.shiftRight_eq_div_pow]
  have on:=Nv aE (B:=B) (N:=N) j (k+1) m;by_cases K:x>>>k=0
  ·have b:((((x>>>k:Nat):Int)) != 0)=false:=al;refine cv @q_.eq_2 @tj.eq_1 @wa.eq_1 b ?_;have n:Go.a_.bits x=(List.range k).filter (x.testBit ·):=by
    unfold Go.a_.bits;have:List.range 64=List.range k++(List.range (64-k)).map (k+ ·):=by rw[<-List.range_add];congr 1;omega
    have nil:((List.range (64-k)).map (k+ ·)).filter (x.testBit ·)=[]:=by
     rw[List.filter_eq_nil_iff];intro i aP;simp only[List.mem_map,List.mem_range]at aP;obtain⟨q,aJ,rfl⟩:=aP;have:(x>>>k).testBit q=false:=al;grind
    grind
   rw[n];exact aD.2 ⟨aw,.refl _ _⟩
  ·have b:((((x>>>k:Nat):Int)) != 0)=true:=al;cases g:x.testBit k with
   |false=>
    have c:((((x>>>k%2:Nat):Int))==1)=false:=by
     grind
    rw[ar,g]at on;refine bh @q_.eq_2 @tj.eq_1 @GV.eq_1 b (λz0 d=>Jv z0 d h) (ag c (ag @RM (ag aT l))) ?_;grind
   |true=>
    have c:((((x>>>k%2:Nat):Int))==1)=true:=by
     grind
    rw[ar,g]at on;have hlen:(aQ ((List.range k).filter (x.testBit ·))).length<=999999999:=by
     grind[aQ]
    obtain⟨z,H',u,w,y,L,M⟩:=aw.jU (a:=(k:Int)) f hlen;have hle:(H.push (.row I 1 [[D F (k:Int)]])).next<=H'.next:=by simp;omega
    refine bh @q_.eq_2 @tj.eq_1 b (λz0 d=>Jv z0 d h) c (ag @c2 u) ?_;refine cv @GV.eq_1 @RM aT l ?_;refine(on H' z ad ad (by simpa [aQ]using w) ad).mono ?_;rintro r E ⟨o,p⟩;exact⟨o,y.trans p⟩
theorem Fa{x:Nat}(aE:x<2^64):W (aK P aG 183 [D .u64 x] H) λr H'=>aY aN H.next bb H' (aQ (Go.a_.bits x)) r/\au H H':=by
 refine aeo 65 ?_;have:=Nv aE (B:=H.next) (N:=65) 64 0 65 H .ao ad ad (by grind[aQ,aY.nil]) ad;rw[Nat.shiftRight_zero]at this;refine bP @GU.eq_1 ?_;refine this.mono ?_;grind[cl.aB]
theorem Dg(n m:Int):W (aK P aG 176 [D F n,D F m] H) λr H'=>r= C (decide (0<=n/\n<m))/\H'=H:=by
 refine aeh 0 ?_;by_cases a:0<=n
 ·refine IF @Bc.eq_1 a @decide_true ?_;grind[aD]
 ·refine Sg @Bc.eq_1 a @decide_false false_and ?_;grind[aD]
end
end
section
open Go.a_
set_option maxRecDepth 2000
section
variable {H:ae}{ok:Nat->Prop}
def lU{n m:Nat}(h:n<m):W (aK P aG 176 [D F n,D F m] H) λr H'=>r= C J/\H'=H:=by
 refine(Dg _ _).mono ?_;rintro r H' ⟨rfl,rfl⟩;exact⟨by rw[decide_eq_true];omega,rfl⟩
def ji(c:bp)(l:Nat):fj l (.agg (cU c))=A (.ptr l 0 0,.row I 4 [cU c]):=by
 have h:=mg l (cU c) (by cases c<;>rfl);rw[h];cases c<;>rfl
def fZ{c:bp}{L:Nat}{k a b f:Int}(h:H.get L=A (.row I 4 [cU c]))(aA:cU c=[D F k,D F a,D F b,D F f]):aI P H 3 (.ptr L 0 0)=A (D F k)/\aI P H 3 (.ptr L 0 1)=A (D F a)/\aI P H 3 (.ptr L 0 2)=A (D F b)/\aI P H 3 (.ptr L 0 3)=A (D F f):=by
 rw[aA]at h;exact kz h
def No{c:bp}{L:Nat}(h:H.get L=A (.row I 4 [cU c])):aI P H 56 (.ptr L 0 0)=A (.agg (cU c)):=by
 rw[hz (n:=4) (i:=0) (c:=0) aF aF h rfl ad];cases c<;>rfl
theorem ag9{n m:Nat}{c:bp}(hw:c.wf n m):W (aK P aG 179 [.agg (cU c),D F n,D F m,D F 8] H) λr H'=>r= C J/\au H H':=by
 refine aek 0 ?_;have e:=au.push H (.row I 4 [cU c]);have d:=ae.a2 H (.row I 4 [cU c]);cases c with
 |base a b=>
  have l:=fZ d rfl;simp-implicitDefEqProofs(disch:=try exact aW)only[q8,ti,pU,reduceAdd,reduceLeDiff,reduceIte,bB,ji,l,Int.reduceBEq];refine dK (lU hw.1) ?_;refine bP l ?_;refine ht (lU hw.2) ?_;refine bN ?_;grind[aD]
 |copy a b=>
  have l:=fZ d rfl;simp-implicitDefEqProofs(disch:=try exact aW)only[q8,ti,pU,reduceAdd,reduceLeDiff,reduceIte,bB,ji,l,Int.reduceBEq];refine dK (lU hw.1) ?_;refine bP l ?_;refine ht (lU hw.2) ?_;refine bN ?_;grind[aD]
 |load a b f=>
  have l:=fZ d rfl;simp-implicitDefEqProofs(disch:=try exact aW)only[q8,ti,pU,reduceAdd,reduceLeDiff,reduceIte,bB,ji,l,Int.reduceBEq];refine dK (lU hw.1) ?_;refine bP l ?_;refine ht (lU hw.2.1) ?_;refine bP l ?_;refine ht (lU (m:=8) hw.2.2) ?_;refine bN ?_;grind[aD]
 |store a b f=>
  have l:=fZ d rfl;simp-implicitDefEqProofs(disch:=try exact aW)only[q8,ti,pU,reduceAdd,reduceLeDiff,reduceIte,bB,ji,l,Int.reduceBEq];refine dK (lU hw.1) ?_;refine bP l ?_;refine ht (lU hw.2.1) ?_;refine bP l ?_;refine ht (lU (m:=8) hw.2.2) ?_;refine bN ?_;grind[aD]
 |same a b=>
  have l:=fZ d rfl;simp-implicitDefEqProofs(disch:=try exact aW)only[q8,ti,pU,reduceAdd,reduceLeDiff,reduceIte,bB,ji,l,Int.reduceBEq];refine dK (lU hw.1) ?_;refine bP l ?_;refine ht (lU hw.2) ?_;refine bN ?_;grind[aD]
structure nO(H:ae)(zA B zC n m w:Nat):Prop where
 a:H.get zA=some (.row false 1 [[.int .i64 (n:Nat)]])
 b:H.get B=some (.row false 1 [[.int .i64 (m:Nat)]])
 c:H.get zC=some (.row false 1 [[.int .i64 (w:Nat)]])
theorem nO.aB{H H':ae}{zA B zC n m w:Nat}(h:nO H zA B zC n m w)(p:au H H'):nO H' zA B zC n m w:=⟨p.get h.a,p.get h.b,p.get h.c⟩
def iD{L:Nat}{n:Int}(h:H.get L=A (.row I 1 [[D F n]])):aI P H 3 (.ptr L 0 0)=A (D F n):=kz h
def acF{zA B zC n m:Nat}(k:nO H zA B zC n m 8){c:bp}(hw:c.wf n m):W (aK P aG 178 [.agg (cU c),.ptr zA 0 0,.ptr B 0 0,.ptr zC 0 0] H) λr H'=>r= C I/\au H H':=by
 refine aej 0 ?_;have d:=au.push H (.row I 4 [cU c]);have e:=ae.a2 H (.row I 4 [cU c]);have bV:=k.aB d;refine bh @GP.eq_1 @ji (No e) (iD bV.a) (iD bV.b) (iD bV.c) ?_;refine bw (ag9 hw) λK p=> ?_
 refine bN ?_;exact aD.2 ⟨rfl,d.trans p⟩
theorem aH.y1{l:List bp}{v:af}(h:aH cP H ok l v){j:Int}{c:bp}(a:0<=j)(b:l[j.toNat]? =A c):∃p,ct P 53 v (D F j)=A p/\∀H',au H H'->aI P H' 56 p=A (.agg (cU c)):=by
 obtain⟨p,cs,d,e,rfl⟩:=h.yG (K:=cP) ik Sm a b;grind
theorem MJ{l:List bp}{v:af}{zA B zC n m:Nat}(hw:gg n m l)(e:l.length<=1000000000){N:Nat}:∀(j k q:Nat) (H:ae),k+j=l.length->j<q->aH cP H ok l v->nO H zA B zC n m 8->
  W (wv (aK P aG) N q v (.func (.func 178) [] [.ptr zA 0 0,.ptr B 0 0,.ptr zC 0 0]) (D F l.length) (D F k) H) λr H'=>r= D F (-1)/\au H H'
 |_,_,0,_,_,hm,_,_=>ad
 |0,k,q+1,H,f,_,aw,aA=>by
  have t:¬(k:Int)<(l.length:Int):=ad;refine b3 @wv.eq_2 @Bw.eq_1 @Ha.eq_1 ?_;grind[aD,au.refl]
 |j+1,k,q+1,H,f,hm,aw,aA=>by
  have g:k<l.length:=ad;obtain⟨p,i,o⟩:=aw.y1 (j:=(k:Int)) (c:=l[k]) ad al;have h:=hw _ (List.getElem_mem g);have on:=MJ (zA:=zA) (B:=B) (zC:=zC) (v:=v) hw e (N:=N) j (k+1) q;refine bh @wv.eq_2 @Bw.eq_1 i (o _ (au.refl _)) @qe.eq_1 @oY.eq_1 ?_;refine bw (acF aA h) λK a=> ?_
  refine bN ?_;refine(on K ad ad (aw.aB a) (aA.aB a)).mono ?_;rintro r s ⟨b,d⟩;exact⟨b,a.trans d⟩
theorem VS{l:List bp}{v:af}{zA B zC n m:Nat}(hw:gg n m l)(a:l.length<=1000000000)(aw:aH cP H ok l v)(aA:nO H zA B zC n m 8):
  W (aK P aG 177 [v,.func (.func 178) [] [.ptr zA 0 0,.ptr B 0 0,.ptr zC 0 0]] H) λr H'=>r= C I/\au H H':=by
 refine aei 0 ?_;have key:W (aK P aG 219 [v,.func (.func 178) [] [.ptr zA 0 0,.ptr B 0 0,.ptr zC 0 0]] H) λr H'=>r= D F (-1)/\au H H':=by
  refine aeC (l.length+1) ?_;refine bG @G_.eq_1 (aw.bg ik) ?_;exact MJ hw a l.length 0 (l.length+1) H ad ad aw aA
 refine bP @GO.eq_1 ?_;refine bw key λK p=> ?_
 refine bN ?_;grind[aD]
end
end
section
open Go.a_
set_option maxRecDepth 2000
def dJ(l:List Int):List (List af):=l.map λn=>[D F n]
theorem nZ{l:List Int}{i:Nat}{n:Int}(h:l[i]? =A n):(dJ l)[i]? =A [D F n]:=by simp[dJ,h]
theorem lB(l:List Int):(dJ l).length=l.length:=by simp[dJ]
theorem DY(l:List Int)(i:Nat)(n:Int):(dJ l).set i [D F n]=dJ (l.set i n):=by simp[dJ,List.map_set]
def NT(H:ae)(l i c:Nat)(ak:List af):jr P H (.iface 288 (.ptr l i c)) "Len" ak=(aI P H 246 (.ptr l i c)).bind λu=>A (223,u::ak):=by
 simp only[jr];have h:nd P H (.iface 288 (.ptr l i c)) "Len" =(aI P H 246 (.ptr l i c)).bind λu=>A (223,u):=aF
 grind
def Fk(H:ae)(l i c:Nat)(ak:List af):jr P H (.iface 288 (.ptr l i c)) "Less" ak=(aI P H 246 (.ptr l i c)).bind λu=>A (281,u::ak):=by
 simp only[jr];have h:nd P H (.iface 288 (.ptr l i c)) "Less" =(aI P H 246 (.ptr l i c)).bind λu=>A (281,u):=aF
 grind
def Fl(H:ae)(l i c:Nat)(ak:List af):jr P H (.iface 288 (.ptr l i c)) "Swap" ak=(aI P H 246 (.ptr l i c)).bind λu=>A (282,u::ak):=by
 simp only[jr];have h:nd P H (.iface 288 (.ptr l i c)) "Swap" =(aI P H 246 (.ptr l i c)).bind λu=>A (282,u):=aF
 grind
def abv(H:ae)(l i c:Nat)(ak:List af):jr P H (.iface 288 (.ptr l i c)) "Push" ak=A (284,.ptr l i c::ak):=by
 simp only[jr];have h:nd P H (.iface 288 (.ptr l i c)) "Push" =A (284,.ptr l i c):=aF;grind
def abu(H:ae)(l i c:Nat)(ak:List af):jr P H (.iface 288 (.ptr l i c)) "Pop" ak=A (283,.ptr l i c::ak):=by
 simp only[jr];have h:nd P H (.iface 288 (.ptr l i c)) "Pop" =A (283,.ptr l i c):=aF;grind
theorem mG:fa 246 3 1:=⟨aF,aF,⟨8,aF,bZ⟩,⟨D F 0,aF,rfl,rfl⟩,bZ⟩
section
variable {H:ae}
structure h9(H:ae)(M L:Nat)(cap:Option Nat)(aT:List Int)(rest:List (List af)):Prop where
 row:H.get L=some (.row false 1 (dJ aT++rest))
 fu:aI P H 246 (.ptr M 0 7)=some (.az L 0 aT.length 1 cap)
 ne:M≠L
 keep:∀b,aI P (H.set L b) 246 (.ptr M 0 7)=some (.az L 0 aT.length 1 cap)
def h9.lt{M L:Nat}{cap:Option Nat}{aT:List Int}{rest:List (List af)}(h:h9 H M L cap aT rest):L<H.next:=ae.bq h.row
theorem h9.set{M L:Nat}{cap:Option Nat}{aT wk':List Int}{rest:List (List af)}(h:h9 H M L cap aT rest)(aw:wk'.length=aT.length):h9 (H.set L (.row I 1 (dJ wk'++rest))) M L cap wk' rest:=
 ⟨ae.cH h.lt,by rw[aw];exact h.keep _,h.ne,λb=>by rw[ae.set_set,aw];exact h.keep _⟩
theorem h9.at_{M L:Nat}{cap:Option Nat}{aT:List Int}{rest:List (List af)}(h:h9 H M L cap aT rest){j:Nat}(a:j<aT.length):ct P 246 (.az L 0 aT.length 1 cap) (D F j)=A (.ptr L j 0)/\aI P H 3 (.ptr L j 0)=A (D F aT[j]):=by
 refine⟨?_,?_⟩
 ·grind[pc,mG]
 ·rw[e0 (i:=j) (c:=0) rO h.row (by rw[List.getElem?_append_left (by grind[lB])];exact nZ (n:=aT[j]) al)];rfl
theorem E9{M L:Nat}{cap:Option Nat}{aT:List Int}{rest:List (List af)}(h:h9 H M L cap aT rest){i j:Nat}(aP:i<aT.length)(a:j<aT.length):W (aK P aG 281 [.az L 0 aT.length 1 cap,D F i,D F j] H) λr H'=>r= C (decide (aT[i]<aT[j]))/\H'=H:=by
 refine ae5 0 ?_;refine b3 @Hz.eq_1 (h.at_ aP) (h.at_ a) ?_;grind[aD]
def tR(l:List Int)(i j:Nat)(aP:i<l.length)(a:j<l.length):List Int:=(l.set i l[j]).set j l[i]
theorem rM(l:List Int)(i j:Nat)(aP:i<l.length)(a:j<l.length):(tR l i j aP a).length=l.length:=by simp[tR]
def aid(l:List Int)(i j:Nat)(aP:i<l.length)(a:j<l.length):(tR l i j aP a).Perm l:=List.set_set_perm aP a
theorem Po{M L:Nat}{cap:Option Nat}{aT:List Int}{rest:List (List af)}(h:h9 H M L cap aT rest){i:Nat}(aP:i<aT.length)(n:Int):cr P H 3 (.ptr L i 0) (D F n)=A (H.set L (.row I 1 (dJ (aT.set i n)++rest))):=by
 rw[e4 Dk h.row (by rw[List.getElem?_append_left (by grind[lB])];exact nZ (n:=aT[i]) al) rfl rfl ad,<-DY,List.set_append_left _ _ (by grind[lB])];rfl
theorem ID{M L:Nat}{cap:Option Nat}{aT:List Int}{rest:List (List af)}(h:h9 H M L cap aT rest){i j:Nat}(aP:i<aT.length)(a:j<aT.length):W (aK P aG 282 [.az L 0 aT.length 1 cap,D F i,D F j] H) λr H'=>r= .tuple []/\H'=H.set L (.row I 1 (dJ (tR aT i j aP a)++rest)):=by
 refine ae6 0 ?_;have ah:=h.set (wk':=aT.set i aT[j]) aX;have b:=Po ah (i:=j) al aT[i];rw[ae.set_set]at b;refine c_ @HA.eq_1 (h.at_ aP) (h.at_ a) (Po h aP) b ?_;exact aD.2 ⟨rfl,rfl⟩
end
end
section
open Go.a_
set_option maxRecDepth 2000
section
variable {H:ae}
structure jD(H H':ae)(M L:Nat)(cap:Option Nat)(rest:List (List af))(aT wk':List Int):Prop where
 q:h9 H' M L cap wk' rest
 perm:wk'.Perm aT
 next:H'.next=H.next
 get:∀k,k≠L->H'.get k=H.get k
theorem jD.refl{M L:Nat}{cap:Option Nat}{rest:List (List af)}{aT:List Int}(h:h9 H M L cap aT rest):jD H H M L cap rest aT aT:=⟨h,.refl _,rfl,λ_ _=>rfl⟩
theorem jD.trans{H1 a:ae}{M L:Nat}{cap:Option Nat}{rest:List (List af)}{aT c d:List Int}(h:jD H H1 M L cap rest aT c)(k:jD H1 a M L cap rest c d):jD H a M L cap rest aT d:=
 ⟨k.q,k.perm.trans h.perm,k.next.trans h.next,λj b=>(k.get j b).trans (h.get j b)⟩
theorem jD.swap{M L:Nat}{cap:Option Nat}{rest:List (List af)}{aT:List Int}(h:h9 H M L cap aT rest){i j:Nat}(aP:i<aT.length)(a:j<aT.length):jD H (H.set L (.row I 1 (dJ (tR aT i j aP a)++rest))) M L cap rest aT (tR aT i j aP a):=
 ⟨h.set (rM _ _ _ _ _),aid _ _ _ _ _,rfl,(by grind[ae.b8])⟩
theorem SM{M L:Nat}{cap:Option Nat}{rest:List (List af)}{N:Nat}:∀(m j:Nat) (H:ae) (aT:List Int),j<m->j<aT.length->aT.length<=1000000000->h9 H M L cap aT rest->W (wH (aK P aG) N m (.iface 288 (.ptr M 0 7)) (D F j) H) λr H'=>r= .tuple []/\∃wk',jD H H' M L cap rest aT wk'
 |0,_,_,_,hm,_,_,_=>ad
 |m+1,0,H,aT,_,a,e,h=>by
  have d:bx P .sub 3 J (D F ((0:Nat):Int)) (D F 1)=A (D F (-1)):=aF;have b:bx P .quo 3 J (D F (-1)) (D F 2)=A (D F 0):=aF;have c:bx P .eql 3 I (D F 0) (D F ((0:Nat):Int))=A (C J):=aF;simp only[wH,BE,d,b,c,lZ];refine bN ?_;exact aD.2 ⟨rfl,aT,.refl h⟩
 |m+1,k+1,H,aT,hm,a,e,h=>by
  have g:IntKind.i64.wrap (((k+1:Nat):Int)-1)=(k:Int):=by grind[wrap_i64]
  have b:bx P .quo 3 J (D F (k:Int)) (D F 2)=A (D F ((k/2:Nat):Int)):=by
   show(if(2:Int)=0 then Z else A (af.int F (IntKind.i64.wrap ((k:Int).tdiv 2))))=_;grind[wrap_i64]
  have c:(((k/2:Nat):Int)==((k+1:Nat):Int))=false:=al;have aP:k/2<aT.length:=ad;refine bh @wH.eq_2 @BE.eq_1 g b c (ag @Fk h.fu) ?_;refine ht (E9 h a aP) ?_;cases l:decide (aT[k+1]<aT[k/2])with
  |false=>
   refine bN ?_;exact aD.2 ⟨rfl,aT,.refl h⟩
  |true=>
   refine b3 @j6.eq_1 @Fl h.fu ?_;refine cK (ID h aP a) ?_;rintro _ H1 ⟨rfl,rfl⟩;refine⟨aX,?_⟩;have q:=jD.swap h aP a;refine(SM m (k/2) _ _ ad (by grind[rM]) (by grind[rM]) q.q).mono ?_;rintro r i ⟨rfl,wk',f⟩;exact⟨rfl,wk',q.trans f⟩
theorem ajm{M L:Nat}{cap:Option Nat}{rest:List (List af)}{aT:List Int}(h:h9 H M L cap aT rest){j:Nat}(b:j<aT.length)(a:aT.length<=1000000000):W (aK P aG 250 [.iface 288 (.ptr M 0 7),D F j] H) λr H'=>r= .tuple []/\∃wk',jD H H' M L cap rest aT wk':=by
 refine aeW (j+1) ?_;refine bP @Hs.eq_1 ?_;grind[SM]
theorem KZ(i0 i:Nat){N:Nat}:W (rm (aK P aG) N (D F i0) (D F i) H) λr H'=>(∃b,r= C b)/\H'=H:=by
 refine bP @rm.eq_1 ?_;grind[aD]
theorem K0{M L:Nat}{cap:Option Nat}{rest:List (List af)}{i0 n:Nat}{N:Nat}:∀(m i:Nat) (H:ae) (aT:List Int),n<i+m->n<=aT.length->aT.length<=500000000->h9 H M L cap aT rest->i<=n->0<m->W (rn (aK P aG) N m (.iface 288 (.ptr M 0 7)) (D F i0) (D F n) (D F i) H) λr H'=>(∃b,r= C b)/\∃wk',jD H H' M L cap rest aT wk'
 |0,_,_,_,_,_,_,_,_,u=>ad
 |m+1,i,H,aT,hm,aL,v,h,x,_=>by
  have a:bx P .mul 3 J (D F 2) (D F i)=A (D F ((2*i:Nat):Int)):=by
   show A (af.int F (IntKind.i64.wrap (2*(i:Int))))=_;grind[wrap_i64]
  have e:=fB (show 2*i<=1000000000 by omega);by_cases a1:n<=2*i+1
  ·have t:((n:Int)<=((2*i+1:Nat):Int)):=ad;refine cv @rn.eq_2 @wI.eq_1 a e ?_;refine(KZ i0 i).mono ?_;rintro r H' ⟨ar,rfl⟩;exact⟨ar,aT,.refl h⟩
  have f:=fB (show 2*i+1<=1000000000 by omega);have go:∀j,i<j->j<n->W (wJ (aK P aG) N (rn (aK P aG) N m) (.iface 288 (.ptr M 0 7)) (D F i0) (D F n) (D F i) (D F j) H) λr H'=>(∃b,r= C b)/\∃wk',jD H H' M L cap rest aT wk':=by
   intro j w y;have c:i<aT.length:=ad;have d:j<aT.length:=ad;refine cv @wJ.eq_1 @j6.eq_1 @Fk h.fu ?_;refine dK (E9 h d c) ?_;cases o:decide (aT[j]<aT[i])with
   |false=>
    refine bN ?_;refine(KZ i0 i).mono ?_;rintro r H' ⟨ar,rfl⟩;exact⟨ar,aT,.refl h⟩
   |true=>
    refine b3 @j6.eq_1 @Fl h.fu ?_;refine cK (ID h c d) ?_;rintro _ H1 ⟨rfl,rfl⟩;refine⟨aX,?_⟩;have q:=jD.swap h c d;refine(K0 m j _ _ ad (by grind[rM]) (by grind[rM]) q.q ad ad).mono ?_;rintro r s ⟨ar,wk',p⟩;exact⟨ar,wk',q.trans p⟩
  by_cases bn:2*i+1+1<n
  ·have g:(((2*i+1+1:Nat):Int)<(n:Int)):=ad;have k:2*i+1<aT.length:=ad;have l:2*i+1+1<aT.length:=ad;refine bh @rn.eq_2 @wI.eq_1 a e f (ag @Fk h.fu) ?_;refine ht (E9 h l k) ?_;cases o:decide (aT[2*i+1+1]<aT[2*i+1])with
   |false=>
    refine bN ?_;exact go _ ad ad
   |true=>
    refine bN ?_;exact go _ ad ad
  ·have g:¬(((2*i+1+1:Nat):Int)<(n:Int)):=ad;refine c_ @rn.eq_2 @wI.eq_1 a e f ?_;exact go _ ad ad
end
end
section
open Go.a_
set_option maxRecDepth 2000
def dr:af->Option Nat
 | .az L _ _ _ _=>A L
 |_=>Z
section
variable {H:ae}
def Wb{M L:Nat}{cap:Option Nat}{rest:List (List af)}{aT:List Int}(h:h9 H M L cap aT rest){n:Nat}(aL:n<=aT.length)(a:aT.length<=500000000):W (aK P aG 251 [.iface 288 (.ptr M 0 7),D F 0,D F n] H) λr H'=>(∃b,r= C b)/\∃wk',jD H H' M L cap rest aT wk':=by
 refine aeX (n+1) ?_;refine bP @Ht.eq_1 ?_;exact K0 (i0:=0) (N:=n+1) (n+1) 0 H aT ad aL a h ad ad
theorem lT{M:Nat}{cs:List af}{v:af}(g:H.get M=A (.row I 9 [cs]))(b:v.one=J)(aw:cs.length=9):cr P H 246 (.ptr M 0 7) v=A (H.set M (.row I 9 [cs.set 7 v])):=by
 have a:=dq b;rw[e4 (n:=1) aF g rfl al al bZ,a];obtain⟨br,a1,bd,bn,bI,bY,ch,dp,fY,rfl⟩:∃br a1 bd bn bI bY ch dp fY,cs=[br,a1,bd,bn,bI,bY,ch,dp,fY]:=by
  match cs,aw with
  |[br,a1,bd,bn,bI,bY,ch,dp,fY],_=>grind
 rfl
def qP{M:Nat}{cs:List af}{v:af}(g:H.get M=A (.row I 9 [cs]))(a:cs[7]? =A v):aI P H 246 (.ptr M 0 7)=A v:=by
 rw[e0 (i:=0) (c:=7) aF g rfl,a]
theorem aY.pD{B M:Nat}{aT:List Int}{b5:af}{cs:List af}(h:aY aN B bb H aT b5)(m:M<B)(bX:H.get M=A (.row I 9 [cs]))(a:cs[7]? =A b5)(n:aT≠[]):∃L cap rest,b5= .az L 0 aT.length 1 cap/\B<=L/\(cap=Z\/cap=A aT.length)/\h9 H M L cap aT rest:=by
 rcases h.eL with⟨_,e⟩|⟨L,els,cap,rfl,_,g,hle,f,j⟩
 ·grind
 ·have d:=h.low L _ _ rfl;have e:els=dJ aT++els.drop aT.length:=by
   apply List.ext_getElem?;intro i;by_cases aP:i<aT.length
   ·rw[List.getElem?_append_left (by grind[lB])];obtain⟨c,k,l⟩:=j i aT[i] al;rw[k,show c=[af.int F aT[i]]from l];grind[nZ]
   grind[lB]
  refine⟨L,cap,els.drop aT.length,rfl,d,f,by rw[<-e];exact g,qP bX a,ad,λb=> ?_⟩;exact qP (by grind[ae.b8]) a
theorem h9.lc{B M L:Nat}{cap:Option Nat}{aT:List Int}{rest:List (List af)}(h:h9 H M L cap aT rest)(b:B<=L)(aA:cap=Z\/cap=A aT.length):aY aN B bb H aT (.az L 0 aT.length 1 cap):=
 ⟨.inr ⟨L,_,cap,rfl,trivial,h.row,by simp[lB],aA,λi a aP=>⟨[D F a],by grind[lB,nZ],rfl⟩⟩,al⟩
structure rW(B M:Nat)(cs:List af)(b5:af)(H H':ae)(wk':List Int)(wv':af):Prop where
 lc:aY aN B bb H' wk' wv'
 Fv:km aN wv'
 bX:H'.get M=some (.row false 9 [cs.set 7 wv'])
 next:H.next<=H'.next
 get:∀k,k<H.next->k≠M->dr b5≠some k->H'.get k=H.get k
 h7:∀L,dr wv'=some L->dr b5=some L\/H.next<=L
def ag5(l:Nat)(n:Int):gB P l 246 1 [(0,D F n)]=A (.az l 0 1 1 (A 1),.row I 1 [[D F n]]):=mW mG l rfl rfl rfl
def aY.Ub{B:Nat}{l:List Int}{v:af}{a:Int}(h:aY aN B bb H l v)(d:B<=H.next)(aw:l.length<=999999999):
  ∃b H',eA P (H.push (.row I 1 [[D F a]])) [246,246] v (.az H.next 0 1 1 (A 1))=A (b,H')/\aY aN B bb H' (l++[a]) b/\cl B H H'/\H.next<H'.next/\(∀k,k<H.next->(∀L n c,v= .az L 0 n 1 c->k≠L)->H'.get k=H.get k)/\(b=v\/∃n,b= .az (H.next+1) 0 n 1 Z):=
 aY.qo (K:=aN) mG h d (au.refl _) (a:=a) (cs:=[D F a]) rfl (λ_ _=>trivial) aw
theorem acL{B M:Nat}{aT:List Int}{b5:af}{cs:List af}(h:aY aN B bb H aT b5)(aL:km aN b5)(w:M<B)(t:B<=H.next)(bX:H.get M=A (.row I 9 [cs]))(x:cs.length=9)(i:cs[7]? =A b5)(aw:aT.length<=400000000)(v:Int):
  W (aK P aG 284 [.ptr M 0 7,.iface 3 (D F v)] H) λr H'=>r= .tuple []/\∃wv',rW B M cs b5 H H' (aT++[v]) wv':=by
 refine ae8 0 ?_;obtain⟨N,H',o,b,p,O,s,f⟩:=h.Ub (a:=v) t ad;have m:r8 P 3 I (.iface 3 (D F v))=A (D F v):=aF;have G:=au.push H (.row I 1 [[D F v]]);have g:H'.get M=A (.row I 9 [cs]):=by rw[p.2 M w];omega
 have hle:(H.push (.row I 1 [[D F v]])).next<=H'.next:=by simp;omega
 have z:=b.az.one;refine bh @HC.eq_1 (qP bX i) (qP (G.get bX) i) m @ag5 (ag o (ag (lT g z x) (dF h.az))) ?_;have E:=ae.bq g;refine aD.2 ⟨rfl,N,?_,?_,ae.cH E,by simp;omega,?_,?_⟩
 ·refine⟨?_,b.low⟩;rcases b.eL with q|⟨L',els,cap,l,K,S,d⟩
  ·exact .inl q
  ·have:=b.low _ _ _ l;exact .inr ⟨L',els,cap,l,K,by grind[ae.b8],d.1,d.2.1,d.2.2⟩
 ·exact aL.app f
 ·intro k y Q j;rw[ae.b8 ad];exact s k y λL n c e=>by rintro rfl;rw[e]at j;exact j rfl
 ·intro L u;rcases f with rfl|⟨R,rfl⟩
  ·grind
  ·cases u;omega
theorem acK{B M:Nat}{aT:List Int}{v:Int}{b5:af}{cs:List af}(h:aY aN B bb H (aT++[v]) b5)(aL:km aN b5)(y:M<B)(bX:H.get M=A (.row I 9 [cs]))(m:cs.length=9)(l:cs[7]? =A b5)(aw:aT.length<=400000000):
  W (aK P aG 283 [.ptr M 0 7] H) λr H'=>r= .iface 3 (D F v)/\∃wv',rW B M cs b5 H H' aT wv'/\dr wv'=dr b5:=by
 refine ae7 0 ?_;obtain⟨w,s1,s2,gb⟩:=h.pop mG aL;obtain⟨p,i1,i2⟩:∃p,ct P 246 b5 (D F aT.length)=A p/\aI P H 3 p=A (D F v):=by
  obtain⟨p,k,b,c,g⟩:=aH.val (K:=aN) mG rO h.az (j:=(aT.length:Int)) (a:=v) ad aX;exact⟨p,b,by rw[c,show k=[_]from g];rfl⟩
 have f:=h.az.len mG (H0:= .empty);have i:IntKind.i64.wrap ((((aT++[v]).length:Nat):Int)-1)=(aT.length:Int):=by
  grind[wrap_i64]
 have o:=s2.az.one;have s:nW P 3 (D F v)=A (.iface 3 (D F v)):=aF;simp only[List.length_append,List.length_cons,List.length_nil,Nat.zero_add]at f i;have u:∀R:bo,bm R (.const .nilIface)=A .nilIface:=λ_=>rfl
 refine bh @HB.eq_1 u (qP bX l) f i (ag i1 (ag i2 (ag s1 (ag (lT bX o m) s)))) ?_;have t:=ae.bq bX;have n:dr w=dr b5:=by
  rcases h.eL with⟨_,e⟩|⟨L,els,cap,rfl,_⟩
  ·simp at e
  ·have:gu P 246 (.az L 0 (aT++[v]).length 1 cap) Z (A (D F aT.length)) Z=A w:=s1;rcases aL L _ _ rfl with rfl|x
   ·have ah:(aT.length:Int)<=(aT.length:Int)+1:=ad;simp[gu,mG.un,mG.ts,dL,ah]at this;rw[<-this];rfl
   grind
 refine aD.2 ⟨rfl,w,⟨?_,gb,ae.cH t,aX,?_,?_⟩,n⟩
 ·refine⟨?_,s2.low⟩;rcases s2.eL with q|⟨L',els,cap,b,c,g,d⟩
  ·exact .inl q
  ·have:=s2.low _ _ _ b;exact .inr ⟨L',els,cap,b,c,by grind[ae.b8],d.1,d.2.1,d.2.2⟩
 ·grind[ae.b8]
 grind
theorem Za{B M:Nat}{aT:List Int}{b5:af}{cs:List af}(h:aY aN B bb H aT b5)(aL:km aN b5)(c:M<B)(f:B<=H.next)(bX:H.get M=A (.row I 9 [cs]))(l:cs.length=9)(e:cs[7]? =A b5)(aw:aT.length<=300000000)(v:Int):
  W (aK P aG 222 [.iface 288 (.ptr M 0 7),.iface 3 (D F v)] H) λr H'=>r= .tuple []/\∃wk' wv',wk'.Perm (v::aT)/\rW B M cs b5 H H' wk' wv':=by
 refine aeF 0 ?_;refine b3 @Hb.eq_1 @j6.eq_1 @abv ?_;refine cK (acL h aL c f bX l e ad v) ?_;rintro _ H1 ⟨rfl,b,q⟩;refine⟨q.next,?_⟩;have d:(cs.set 7 b)[7]? =A b:=al;refine b3 @j6.eq_1 @NT (qP q.bX d) ?_;have hlen:W (aK P aG 223 [b] H1) λr H'=>r= D F ((aT++[v]).length:Nat)/\H'=H1:=by
  refine Ga 0 ?_;refine bG @wz.eq_1 (q.lc.az.bg mG) ?_;grind[aD]
 refine dK hlen ?_;have s:IntKind.i64.wrap ((((aT++[v]).length:Nat):Int)-1)=(aT.length:Int):=by
  grind[wrap_i64]
 refine bP s ?_;obtain⟨L,cap,rest,rfl,g,u,pD⟩:=q.lc.pD c q.bX d aX;refine cK (ajm pD (j:=aT.length) aX al) ?_;rintro _ t ⟨rfl,wk',r⟩;refine⟨by rw[r.next];omega,aD.2 ⟨rfl,wk',.az L 0 (aT++[v]).length 1 cap,r.perm.trans (List.perm_append_comm),?_⟩⟩;have a:wk'.length=(aT++[v]).length:=r.perm.length_eq;rw[<-a];have h7:=q.h7 L rfl;refine⟨r.q.lc g al,?_,?_,?_,?_,?_⟩
 ·rw[a];exact q.Fv
 ·rw[r.get M ad,a];exact q.bX
 ·rw[r.next];exact q.next
 ·intro k m o p;have n:k≠L:=by
   grind
  rw[r.get k n];exact q.get k m o p
 ·intro L' i;cases i;omega
theorem Y_{B M:Nat}{aT:List Int}{b5:af}{cs:List af}(h:aY aN B bb H aT b5)(aL:km aN b5)(g:M<B)(bX:H.get M=A (.row I 9 [cs]))(z:cs.length=9)(c:cs[7]? =A b5)(aw:aT.length<=300000000)(m:aT≠[]):
  W (aK P aG 224 [.iface 288 (.ptr M 0 7)] H) λr H'=>∃v wk' wv',r= .iface 3 (D F v)/\(v::wk').Perm aT/\rW B M cs b5 H H' wk' wv':=by
 refine aeG 0 ?_;have hlen:W (aK P aG 223 [b5] H) λr H'=>r= D F (aT.length:Nat)/\H'=H:=by
  refine Ga 0 ?_;refine bG @wz.eq_1 (h.az.bg mG) ?_;grind[aD]
 have o:0<aT.length:=List.length_pos_iff.2 m;have N:IntKind.i64.wrap ((aT.length:Int)-1)=((aT.length-1:Nat):Int):=by grind[wrap_i64]
 refine cv @Hc.eq_1 @j6.eq_1 @NT (qP bX c) ?_;refine dK hlen ?_;obtain⟨L,cap,rest,rfl,y,Q,pD⟩:=h.pD g bX c m;refine cv N @j6.eq_1 @Fl pD.fu ?_;refine cK (ID pD (i:=0) (j:=aT.length-1) o ad) ?_;rintro _ H1 ⟨rfl,rfl⟩;refine⟨aX,?_⟩;have s:=jD.swap pD o (show aT.length-1<aT.length by omega);refine cK (Wb s.q (n:=aT.length-1) (by grind[rM]) (by grind[rM])) ?_;rintro _ u ⟨⟨b,rfl⟩,d,t⟩;refine⟨by rw[t.next];omega,?_⟩;have r:=s.trans t;have K:d.length=aT.length:=r.perm.length_eq;obtain⟨f,v,w⟩:∃f v,d=f++[v]:=by
  rcases List.eq_nil_or_concat d with rfl|⟨a,b,e⟩
  ·grind
  grind
 subst w;have p:=r.q.lc y al;have x:u.get M=A (.row I 9 [cs]):=by rw[r.get M ad];omega
 rw[K]at p;refine bG @j6.eq_1 @abu ?_;refine cK (acK p aL g x z c al) ?_;rintro _ O ⟨rfl,wv',q,S⟩;refine⟨q.next,aD.2 ⟨v,f,wv',rfl,?_,q.lc,q.Fv,q.bX,by have:=q.next;rw[r.next]at this;omega,?_,?_⟩⟩
 ·exact(List.perm_append_comm (l₁:=[v])).trans r.perm
 ·intro k R G l;have E:k≠L:=by rintro rfl;exact l rfl
  rw[q.get k (by rw[r.next];omega) G l,r.get k E]
 grind
end
end
section
open Go.a_
set_option maxRecDepth 2000
def g6(l:List Nat):List (List af):=l.map λn=>[D .u64 (n:Nat)]
def yO{l:List Nat}{i n:Nat}(h:l[i]? =A n):(g6 l)[i]? =A [D .u64 (n:Nat)]:=by simp[g6,h]
def JD(l:List Nat)(i n:Nat):(g6 l).set i [D .u64 (n:Nat)]=g6 (l.set i n):=by simp[g6,List.map_set]
def ig(q:a_.Ask):List af:=[D F (if q.fu then 3 else 4),D F (q.o:Nat),D F (q.f:Nat)]
def yv:eS a_.Ask:=⟨3,λ_ _ q cs=>cs=ig q,by rintro _ _ q _ rfl;exact⟨rfl,rfl⟩,λ_ h=>h⟩
def uV:fa 284 286 3:=⟨aF,aF,⟨24,aF,bZ⟩,⟨.agg [D F 0,D F 0,D F 0],aF,rfl,rfl⟩,bZ⟩
def qU:fa 243 251 1:=⟨aF,aF,⟨8,aF,bZ⟩,⟨D .u64 0,aF,rfl,rfl⟩,bZ⟩
def Ff:fa 244 284 1:=⟨aF,aF,⟨24,aF,bZ⟩,⟨.ao,aF,rfl,rfl⟩,bZ⟩
def h6(p:Nat×Nat):af×af:=(.agg [D F (p.1:Nat),D F (p.2:Nat)],.agg [])
def im(n V a:Nat)(dv:Nat->af):List af:=[D F (n:Nat),D F 8,.az a 0 V 1 (A V),.az (a+1) 0 V 1 (A V),.az (a+2) 0 V 1 (A V),.az (a+3) 0 V 1 (A V),.map (a+4),dv (2*V),.az (a+5) 0 V 1 (A V)]
structure cF(n V a:Nat)(S:bJ)(aT:List Int)(dv:Nat->af)(es:List (Nat×Nat))(H:ae):Prop where
 bX:H.get (a+6)=some (.row false 9 [im n V a dv])
 cj:H.get a=some (.row false 1 (g6 S.am))
 fO:H.get (a+1)=some (.row false 1 ((List.range V).map λv=>[dv v]))
 ic:H.get (a+2)=some (.row false 1 ((List.range V).map λv=>[dv (V+v)]))
 hk:H.get (a+3)=some (.row false 1 (g6 S.seen))
 dX:H.get (a+4)=some (.map (es.map h6))
 cQ:H.get (a+5)=some (.row false 1 (c6 S.waits))
 cq:S.am.length=V
 aR:S.g9.length=V
 hn:S.asks.length=V
 ls:S.seen.length=V
 lw:S.waits.length=V
 g:∀v,v<V->aY aN (a+7) bb H (aQ (S.g v)) (dv v)
 q:∀v,v<V->aY yv (a+7) bb H (S.q v) (dv (V+v))
 w:aY aN (a+7) bb H aT (dv (2*V))
 wn:km aN (dv (2*V))
 hg:∀o gT L,o<=2*V->gT<=2*V->dr (dv o)=some L->dr (dv gT)=some L->o=gT
 perm:aT.Perm (aQ S.work)
 kc:∀x y,(x,y)∈es↔x<V/\y∈S.g x
 ka:∀v,(S.g v).Nodup
 jT:∀v,∀b∈S.g v,b<V
 j5:S.work.Nodup
 j4:∀v∈S.work,v<V
 wt:∀u,u<V->S.w u=false->u∉S.work
 fb:∀v,S.a v<2^64
def Fz:∀(V:Nat) {l:List Nat},l.Nodup->(∀x∈l,x<V)->l.length<=V
 |0,l,_,h=>by
  cases l with
  |nil=>simp
  |cons a l=>have:=h a aX;omega
 |V+1,l,aL,h=>by
  have ah:=Fz V (aL.erase V) al;grind
section
variable {n V a:Nat}{S:bJ}{aT:List Int}{dv:Nat->af}{es:List (Nat×Nat)}{H:ae}
def cF.lt(h:cF n V a S aT dv es H):a+7<=H.next:=by have:=ae.bq h.bX;omega
def cF.S8(h:cF n V a S aT dv es H):aT.length<=V:=by
 rw[h.perm.length_eq,aQ,List.length_map];exact Fz V h.j5 h.j4
def cF.L_(h:cF n V a S aT dv es H)(v:Nat):(S.g v).length<=V:=Fz V (h.ka v) (h.jT v)
theorem cF.aB{H':ae}(h:cF n V a S aT dv es H)(p:au H H'):cF n V a S aT dv es H':=
 {h with bX:=p.get h.bX,cj:=p.get h.cj,fO:=p.get h.fO,ic:=p.get h.ic,hk:=p.get h.hk,dX:=p.get h.dX,cQ:=p.get h.cQ,g:=λv b=>(h.g v b).aB p,q:=λv b=>(h.q v b).aB p,w:=h.w.aB p}
def gy(g:H.get (a+6)=A (.row I 9 [im n V a dv])):aI P H 3 (.ptr (a+6) 0 0)=A (D F n)/\aI P H 3 (.ptr (a+6) 0 1)=A (D F 8)/\aI P H 243 (.ptr (a+6) 0 2)=A (.az a 0 V 1 (A V))/\aI P H 31 (.ptr (a+6) 0 3)=A (.az (a+1) 0 V 1 (A V))/\aI P H 244 (.ptr (a+6) 0 4)=A (.az (a+2) 0 V 1 (A V))
  /\aI P H 243 (.ptr (a+6) 0 5)=A (.az (a+3) 0 V 1 (A V))/\aI P H 245 (.ptr (a+6) 0 6)=A (.map (a+4))/\aI P H 246 (.ptr (a+6) 0 7)=A (dv (2*V))/\aI P H 104 (.ptr (a+6) 0 8)=A (.az (a+5) 0 V 1 (A V)):=by
 rw[im]at g;have t (t c:Nat) (ba:eo P t=A I):=e0 (c:=c) (i:=0) ba g rfl;exact⟨t _ 0 aF,t _ 1 aF,t _ 2 aF,t _ 3 aF,t _ 4 aF,t _ 5 aF,t _ 6 aF,t _ 7 aF,t _ 8 aF⟩
theorem nj{t e L v:Nat}(y:fa t e 1)(a:v<V):ct P t (.az L 0 V 1 (A V)) (D F v)=A (.ptr L v 0):=by
 grind[pc]
def h5{t e v:Nat}(y:fa t e 1)(a:v<V):∀L,ct P t (.az L 0 V 1 (A V)) (D F v)=A (.ptr L v 0):=λ_=>nj y a
theorem cF.qQ(h:cF n V a S aT dv es H){v:Nat}(b:v<V):aI P H 251 (.ptr a v 0)=A (D .u64 (S.a v:Nat)):=by
 rw[e0 aF h.cj (yO (n:=S.a v) (by have:=h.cq;grind[bJ.a]))];rfl
theorem cF.aax(h:cF n V a S aT dv es H){v:Nat}(b:v<V):aI P H 251 (.ptr (a+3) v 0)=A (D .u64 (S.s v:Nat)):=by
 rw[e0 aF h.hk (yO (n:=S.s v) (by have:=h.ls;grind[bJ.s]))];rfl
theorem cF.IP(h:cF n V a S aT dv es H){v:Nat}(b:v<V):S.waits[v]? =A (S.w v):=by
 have:=h.lw;grind[bJ.w]
def cF.Nn(h:cF n V a S aT dv es H){v:Nat}(b:v<V):aI P H 4 (.ptr (a+5) v 0)=A (C (S.w v)):=by
 rw[e0 aF h.cQ (ur (h.IP b))];rfl
theorem cF.aay(h:cF n V a S aT dv es H){v:Nat}(b:v<V):aI P H 30 (.ptr (a+1) v 0)=A (dv v):=by
 rw[e0 aF h.fO (e:=[dv v]) al];rfl
theorem cF.uS(h:cF n V a S aT dv es H){v:Nat}(b:v<V):aI P H 284 (.ptr (a+2) v 0)=A (dv (V+v)):=by
 rw[e0 aF h.ic (e:=[dv (V+v)]) al];rfl
theorem qH(g:H.get (a+6)=A (.row I 9 [im n V a dv])){t f:Nat}(e:n+t*8+f<=1000000):W (aK P aG 184 [.ptr (a+6) 0 0,D F t,D F f] H) λr H'=>r= D F (dd n t f:Nat)/\H'=H:=by
 refine aep 0 ?_;have b:bx P .mul 3 I (D F (t:Int)) (D F 8)=A (D F ((t*8:Nat):Int)):=by
  show A (af.int F (IntKind.i64.wrap ((t:Int)*8)))=_;grind[wrap_i64]
 have c:IntKind.i64.wrap ((n:Int)+((t*8:Nat):Int))=((n+t*8:Nat):Int):=by grind[wrap_i64]
 have d:IntKind.i64.wrap (((n+t*8:Nat):Int)+(f:Int))=((dd n t f:Nat):Int):=by grind[wrap_i64,dd]
 refine c_ @GW.eq_1 (gy g) b c d ?_;grind[aD]
end
end
section
open Go.a_
set_option maxRecDepth 2000
def Plain{α:Type}(K:eS α):Prop:=∀{H H':ae} {ok ok':Nat->Prop} {a:α} {cs:List af},K.V H ok a cs->K.V H' ok' a cs
def fx:Plain aN:=λh=>h
def pC:Plain yv:=λh=>h
def aY.frame{α:Type}{K:eS α}(c:Plain K){B:Nat}{H H':ae}{l:List α}{v:af}(h:aY K B bb H l v)(aS:∀L,dr v=A L->H'.get L=H.get L):aY K B bb H' l v:=by
 refine⟨?_,h.low⟩;rcases h.eL with ah|⟨L,els,cap,b,d,m,e,f,g⟩
 ·exact .inl ah
 ·exact .inr ⟨L,els,cap,b,d,by rw[aS L (by rw[b];rfl)];omega,e,f,λi a aP=>by obtain⟨cs,j,k⟩:=g i a aP;exact⟨cs,j,c k⟩⟩
def aY.jn{α:Type}{K:eS α}{B:Nat}{ok:Nat->Prop}{H:ae}{l:List α}{v:af}(h:aY K B ok H l v){L:Nat}(e:dr v=A L):B<=L/\L<H.next:=by
 rcases h.eL with⟨rfl,_⟩|⟨L',els,cap,rfl,_,g,_⟩
 ·cases e
 ·cases e;exact⟨h.low _ _ _ rfl,ae.bq g⟩
section
variable {n V a:Nat}{S:bJ}{aT:List Int}{dv:Nat->af}{es:List (Nat×Nat)}{H:ae}
def cF.jW(h:cF n V a S aT dv es H){o:Nat}(aZ:o<=2*V){L:Nat}(e:dr (dv o)=A L):a+7<=L/\L<H.next:=by
 by_cases ah:o<V
 ·exact(h.g o ah).jn e
 ·by_cases ai:o<2*V
  ·have:=h.q (o-V) ad;rw[show V+(o-V)=o by omega]at this;exact this.jn e
  ·obtain rfl:o=2*V:=ad;exact h.w.jn e
theorem cF.other(h:cF n V a S aT dv es H){c:Nat}(aA:c<7)(b:bz):(∀k,k≠a+c->(H.set (a+c) b).get k=H.get k)/\(∀{α:Type} {K:eS α} {l:List α} {v:af},Plain K->aY K (a+7) bb H l v->aY K (a+7) bb (H.set (a+c) b) l v):=by
 have ah:∀k,k≠a+c->(H.set (a+c) b).get k=H.get k:=(by grind[ae.b8]);exact⟨ah,λd aw=>aw.frame d λL e=>ah L (by have:=(aw.jn e).1;omega)⟩
def cF.RJ(h:cF n V a S aT dv es H){v:Nat}(b:Bool)(i:∀u,u<V->({S with waits:=S.waits.set v b}:bJ).w u=I->u∉S.work):
  cF n V a {S with waits:=S.waits.set v b} aT dv es (H.set (a+5) (.row I 1 (c6 (S.waits.set v b)))):=by
 obtain⟨d,f⟩:=h.other (c:=5) ad (.row I 1 (c6 (S.waits.set v b)));have j:=h.lt;exact {
  bX:=by rw[d _ ad];exact h.bX,cj:=by rw[d _ ad];exact h.cj,fO:=by rw[d _ ad];exact h.fO,ic:=by rw[d _ ad];exact h.ic,hk:=by rw[d _ ad];exact h.hk,dX:=by rw[d _ ad];exact h.dX,cQ:=ae.cH ad,
  cq:=h.cq,aR:=h.aR,hn:=h.hn,ls:=h.ls,lw:=by simpa using h.lw,g:=λv e=>f fx (h.g v e),q:=λv e=>f pC (h.q v e),w:=f fx h.w,wn:=h.wn,hg:=h.hg,perm:=h.perm,kc:=h.kc,ka:=h.ka,jT:=h.jT,j5:=h.j5,j4:=h.j4,wt:=i,fb:=h.fb}
def cF.agw(h:cF n V a S aT dv es H)(v x:Nat)(f:∀u,({S with am:=S.am.set v x}:bJ).a u<2^64):
  cF n V a {S with am:=S.am.set v x} aT dv es (H.set a (.row I 1 (g6 (S.am.set v x)))):=by
 obtain⟨b,d⟩:=h.other (c:=0) ad (.row I 1 (g6 (S.am.set v x)));rw[Nat.add_zero]at b d;have i:=h.lt;exact {
  bX:=by rw[b _ ad];exact h.bX,cj:=ae.cH ad,fO:=by rw[b _ ad];exact h.fO,ic:=by rw[b _ ad];exact h.ic,hk:=by rw[b _ ad];exact h.hk,dX:=by rw[b _ ad];exact h.dX,cQ:=by rw[b _ ad];exact h.cQ,
  cq:=by simpa using h.cq,aR:=h.aR,hn:=h.hn,ls:=h.ls,lw:=h.lw,g:=λv e=>d fx (h.g v e),q:=λv e=>d pC (h.q v e),w:=d fx h.w,wn:=h.wn,hg:=h.hg,perm:=h.perm,kc:=h.kc,ka:=h.ka,jT:=h.jT,j5:=h.j5,j4:=h.j4,wt:=h.wt,fb:=f}
def cF.agx(h:cF n V a S aT dv es H)(v x:Nat):
  cF n V a {S with seen:=S.seen.set v x} aT dv es (H.set (a+3) (.row I 1 (g6 (S.seen.set v x)))):=by
 obtain⟨b,e⟩:=h.other (c:=3) ad (.row I 1 (g6 (S.seen.set v x)));have f:=h.lt;exact {
  bX:=by rw[b _ ad];exact h.bX,cj:=by rw[b _ ad];exact h.cj,fO:=by rw[b _ ad];exact h.fO,ic:=by rw[b _ ad];exact h.ic,hk:=ae.cH ad,dX:=by rw[b _ ad];exact h.dX,cQ:=by rw[b _ ad];exact h.cQ,
  cq:=h.cq,aR:=h.aR,hn:=h.hn,ls:=by simpa using h.ls,lw:=h.lw,g:=λv d=>e fx (h.g v d),q:=λv d=>e pC (h.q v d),w:=e fx h.w,wn:=h.wn,hg:=h.hg,perm:=h.perm,kc:=h.kc,ka:=h.ka,jT:=h.jT,j5:=h.j5,j4:=h.j4,wt:=h.wt,fb:=h.fb}
def dj(dv:Nat->af)(o:Nat)(v:af):Nat->af:=λk=>if k=o then v else dv k
theorem hj(dv:Nat->af)(o:Nat)(v:af):dj dv o v o=v:=if_pos rfl
theorem fk(dv:Nat->af){o k:Nat}(v:af)(h:k≠o):dj dv o v k=dv k:=if_neg h
def aic(n V a:Nat)(dv:Nat->af)(v:af):(im n V a dv).set 7 v=im n V a (dj dv (2*V) v):=by
 simp only[im,hj];rfl
theorem Se(n V a:Nat)(dv:Nat->af){o:Nat}(v:af)(h:o≠2*V):im n V a (dj dv o v)=im n V a dv:=by
 grind[im,fk]
theorem En{V:Nat}{dv:Nat->af}{o:Nat}{v:af}(hg:∀o gT L,o<=2*V->gT<=2*V->dr (dv o)=A L->dr (dv gT)=A L->o=gT)(aZ:o<=2*V)(f:∀L,dr v=A L->dr (dv o)=A L\/∀gT,gT<=2*V->dr (dv gT)≠A L):
  ∀p a L,p<=2*V->a<=2*V->dr (dj dv o v p)=A L->dr (dj dv o v a)=A L->p=a:=by
 intro p a L c d e b;by_cases ah:p=o<;>by_cases ai:a=o
 ·omega
 ·grind[hj,fk]
 ·grind[hj,fk]
 grind[fk]
theorem Ac{V:Nat}{dv a:Nat->af}(h:∀v,v<V->a v=dv v):((List.range V).map λv=>[a v])=(List.range V).map λv=>[dv v]:=
 (by grind[List.map_congr_left])
theorem cF.aJ(h:cF n V a S aT dv es H)(t:0<V){c:List Nat}{wk':List Int}{wv':af}{H':ae}(q:rW (a+7) (a+6) (im n V a dv) (dv (2*V)) H H' wk' wv')(p:wk'.Perm (aQ c))(l:c.Nodup)(j:∀v∈c,v<V)(r:∀u,u<V->S.w u=I->u∉c):
  cF n V a {S with work:=c} wk' (dj dv (2*V) wv') es H':=by
 have x:=h.lt;have low:∀k,k<a+6->H'.get k=H.get k:=λk y=>q.get k ad ad λe=>by have:=(h.jW (du _) e).1;omega
 have z:∀o L,o<2*V->dr (dv o)=A L->H'.get L=H.get L:=λo L aZ e=>by
  have aw:=h.jW ad e;exact q.get L aw.2 ad λd=>by have:=h.hg _ _ L (Nat.le_of_lt aZ) (du _) e d;omega
 have f:∀v,v<V->dj dv (2*V) wv' v=dv v:=(by grind[fk]);have i:∀v,v<V->dj dv (2*V) wv' (V+v)=dv (V+v):=(by grind[fk]);exact {
  bX:=by rw[q.bX,aic],cj:=by rw[low _ ad];exact h.cj,fO:=by rw[low _ ad,Ac f];exact h.fO,ic:=by rw[low _ ad,Ac (dv:=λv=>dv (V+v)) i];exact h.ic,hk:=by rw[low _ ad];exact h.hk,dX:=by rw[low _ ad];exact h.dX,cQ:=by rw[low _ ad];exact h.cQ,
  cq:=h.cq,aR:=h.aR,hn:=h.hn,ls:=h.ls,lw:=h.lw,
  g:=λv b=>by rw[f v b];exact(h.g v b).frame fx al
  q:=λv b=>by rw[i v b];exact(h.q v b).frame pC al
  w:=by rw[hj];exact q.lc
  wn:=by rw[hj];exact q.Fv
  hg:=En h.hg ad λL e=>(q.h7 L e).imp id λs gT m d=>by have:=(h.jW m d).2;omega
  perm:=p,kc:=h.kc,ka:=h.ka,jT:=h.jT,j5:=l,j4:=j,wt:=r,fb:=h.fb}
def Fr(V a:Nat)(dv b:Nat->af)(H H':ae):Prop:=H.next<=H'.next/\∀k,k<H.next->(k<a\/a+7<=k)->(∀o,o<=2*V->dr (dv o)≠A k)->H'.get k=H.get k/\∀o,o<=2*V->dr (b o)≠A k
theorem Fr.refl(V a:Nat)(dv:Nat->af)(H:ae):Fr V a dv dv H H:=⟨ad,λ_ _ _ h=>⟨rfl,h⟩⟩
theorem Fr.trans{V a:Nat}{d1 d2 d3:Nat->af}{H1 b c:ae}(h:Fr V a d1 d2 H1 b)(k:Fr V a d2 d3 b c):Fr V a d1 d3 H1 c:=
 ⟨Nat.le_trans h.1 k.1,λj e d aw=>by
  obtain⟨g,f⟩:=h.2 j e d aw;obtain⟨i,l⟩:=k.2 j (Nat.lt_of_lt_of_le e h.1) d f;grind⟩
theorem Fr.aB{V a:Nat}{dv:Nat->af}{H H':ae}(p:au H H'):Fr V a dv dv H H':=⟨p.1,λk b _ h=>⟨p.2 k b,h⟩⟩
theorem Fr.set{V a c:Nat}{dv:Nat->af}(H:ae)(aA:c<7)(b:bz):Fr V a dv dv H (H.set (a+c) b):=⟨aX,(by grind[ae.b8])⟩
def So(n V a:Nat)(c:bJ)(keep:Nat->Prop)(dv:Nat->af)(H:ae)(H':ae):Prop:=∃wk' b es',cF n V a c wk' b es' H'/\(∀o,keep o->b o=dv o)/\Fr V a dv b H H'
theorem cF.LW(h:cF n V a S aT dv es H){wk':List Int}{wv':af}{H':ae}(q:rW (a+7) (a+6) (im n V a dv) (dv (2*V)) H H' wk' wv'):Fr V a dv (dj dv (2*V) wv') H H':=
 ⟨q.next,λk c d aw=>⟨q.get k c ad (aw _ ad),λo aZ e=>by
  by_cases b:o=2*V
  ·subst b;rw[hj]at e;rcases q.h7 k e with ah|ah
   ·grind
   omega
  grind[fk]⟩⟩
def cF.e3{b:Nat->af}{H':ae}(h:cF n V a S aT dv es H)(f:Fr V a dv b H H'):cl a H H':=
 ⟨f.1,λk c=>(f.2 k (by have:=h.lt;omega) (.inl c) λo aZ e=>by have:=(h.jW aZ e).1;omega).1⟩
theorem IM{S:bJ}{v u:Nat}{b:Bool}(a:v<S.waits.length):({S with waits:=S.waits.set v b}:bJ).w u=if u=v then b else S.w u:=by
 grind[bJ.w]
theorem NC(h:cF n V a S aT dv es H)(k:V<=1000000){v:Nat}(b:v<V):W (aK P aG 181 [.ptr (a+6) 0 0,D F v] H) λr H'=>r= .tuple []/\So n V a (iY S v) (λo=>o<2*V) dv H H':=by
 refine aem 0 ?_;have m:=h.lw;cases hw:S.w v with
 |true=>
  have l:=h.Nn b;rw[hw]at l;refine cv @Bf.eq_1 (gy h.bX) (h5 pn b) l ?_;exact aD.2 ⟨rfl,aT,dv,es,by grind[iY],λ_ _=>rfl,.refl _ _ _ _⟩
 |false=>
  have l:=h.Nn b;rw[hw]at l;have st:=yf (b':=true) h.cQ (h.IP b);have f:=h.wt v b hw;have ah:=h.RJ (v:=v) J (λu hu e=>by
   rw[IM ad]at e;by_cases g:u=v
   ·grind
   ·rw[if_neg g]at e;exact h.wt u hu e)
  have i1:∀l i c,nW P 288 (.ptr l i c)=A (.iface 288 (.ptr l i c)):=λl i c=>aF
  have i2:nW P 3 (D F (v:Nat))=A (.iface 3 (D F (v:Nat))):=aF;refine bh @Bf.eq_1 (gy h.bX) (h5 pn b) l st (ag i1 i2) ?_;have hlen:=ah.S8;have d:=ah.lt;refine cK (Za ah.w ah.wn ad d ah.bX rfl rfl ad v) ?_;rintro _ j ⟨rfl,wk',wv',pm,q⟩;refine⟨q.next,aD.2 ⟨rfl,wk',_,es,?_,(by grind[fk]),(Fr.set H ad _).trans (ah.LW q)⟩⟩
  ·have e:iY S v={S with waits:=S.waits.set v J,work:=v::S.work}:=by grind[iY]
   rw[e];refine ah.aJ ad q (pm.trans ?_) (List.nodup_cons.2 ⟨f,h.j5⟩) ?_ ?_
   ·exact h.perm.cons _
   ·intro u hu;rcases List.mem_cons.1 hu with rfl|hu
    ·omega
    ·exact h.j4 u hu
   ·intro u hu e hm;rcases List.mem_cons.1 hm with rfl|hm
    ·grind[IM]
    ·exact ah.wt u hu e hm
theorem EL(h:cF n V a S aT dv es H)(j:V<=1000000){v x:Nat}(b:v<V)(aE:x<2^64)(e:S.a v<2^64):W (aK P aG 220 [.ptr (a+6) 0 0,D F v,D .u64 x] H) λr H'=>r= .tuple []/\So n V a (gx S v x) (λo=>o<2*V) dv H H':=by
 refine aeD 0 ?_;by_cases he:S.a v|||x=S.a v
 ·have d:(((S.a v|||x:Nat):Int) != ((S.a v:Nat):Int))=false:=al;refine bh @Bx.eq_1 (gy h.bX) (h5 qU b) (h.qQ b) (λz0 f=>FJ z0 f e aE) d ?_;exact aD.2 ⟨rfl,aT,dv,es,by grind[gx],λ_ _=>rfl,.refl _ _ _ _⟩
 ·have d:(((S.a v|||x:Nat):Int) != ((S.a v:Nat):Int))=true:=al;have m:=h.cq;have i:S.am[v]? =A (S.a v):=by grind[bJ.a]
  have st:cr P H 251 (.ptr a v 0) (D .u64 ((S.a v|||x:Nat):Int))=A (H.set a (.row I 1 (g6 (S.am.set v (S.a v|||x))))):=by
   rw[e4 (n:=1) aF h.cj (yO i) rfl rfl ad,<-JD];rfl
  refine bh @Bx.eq_1 (gy h.bX) (h5 qU b) (h.qQ b) (λz0 f=>FJ z0 f e aE) (ag d st) ?_;have ah:=h.agw v (S.a v|||x) (λu=>by
   unfold bJ.a;rw[o_ ad];split
   ·exact Nat.or_lt_two_pow e aE
   ·exact h.fb u)
  refine cK (NC ah j b) ?_;rintro _ l ⟨rfl,wk',g,es',ai,k,p⟩;refine⟨p.1,aD.2 ⟨rfl,wk',g,es',by grind[gx],k,(Fr.set (c:=0) H ad _).trans p⟩⟩
end
end
section
open Go.a_
set_option maxRecDepth 2000
def TC(x y u v:Int):jg P 10000 312 (.agg [D F x,D F y]) (.agg [D F u,D F v])=bif x==u then(bif y==v then A J else A I)else A false:=aF
def TD(p q:Nat×Nat):jg P 10000 312 (h6 p).1 (h6 q).1=A (decide (p=q)):=by
 refine(TC p.1 p.2 q.1 q.2).trans ?_;obtain⟨x,y⟩:=p;obtain⟨u,v⟩:=q;simp only[eF];by_cases ah:x=u<;>by_cases ai:y=v
 ·grind
 ·grind
 ·grind
 grind
def DM(p:Nat×Nat):∀(es:List (Nat×Nat)) (i:Nat),(p∉es->nb P 312 (h6 p).1 (es.map h6) i=A Z)/\(p∈es->∃j,nb P 312 (h6 p).1 (es.map h6) i=A (A (j,.agg [])))
 |[],i=>⟨λ_=>rfl,λh=>al⟩
 |e::es,i=>by
  obtain⟨ah,ai⟩:=DM p es (i+1);simp only[List.map_cons,nb,TD];by_cases he:p=e
  ·rw[decide_eq_true he];exact⟨al,λ_=>⟨i,rfl⟩⟩
  grind
def SF:P.underlying 245=A (.map 312 310):=aF
def abj{H:ae}{K:Nat}{es:List (Nat×Nat)}(g:H.get K=A (.map (es.map h6)))(p:Nat×Nat):l9 P H 245 (.map K) (h6 p).1 J=A (.tuple [.agg [],.bool (decide (p∈es))]):=by
 obtain⟨d,a,b,aJ⟩:∃d,P.underlying 312=A d/\plainKey d=I/\pA P d (h6 p).1=true:=⟨.array 2 3,aF,aF,aF⟩;have c:fX P 310=A (.agg []):=aF;obtain⟨ah,ai⟩:=DM p es 0;simp only[l9,SF,a,c,b,aJ,g];by_cases hm:p∈es
 ·grind
 grind
def ajq{H:ae}{K:Nat}{es:List (Nat×Nat)}(g:H.get K=A (.map (es.map h6)))(p:Nat×Nat)(b:p∉es):jI P H 245 (.map K) (h6 p).1 (.agg [])=A (H.set K (.map ((es++[p]).map h6))):=by
 obtain⟨d,a,c,aJ⟩:∃d,P.underlying 312=A d/\plainKey d=I/\pA P d (h6 p).1=true:=⟨.array 2 3,aF,aF,aF⟩;simp only[jI,SF,a,c,aJ,g,(DM p es 0).1 b];simp[h6]
def FW{V o:Nat}(aZ:o<V)(dv:Nat->af)(v:af):((List.range V).map λk=>[dv k]).set o [v]=(List.range V).map λk=>[dj dv o v k]:=by
 apply List.ext_getElem?;intro i;by_cases aP:i<V
 ·grind[dj]
 grind
section
variable {n V a:Nat}{S:bJ}{aT:List Int}{dv:Nat->af}{es:List (Nat×Nat)}{H:ae}
theorem zd{S:bJ}{x v:Nat}{l:List Nat}(aE:x<S.g9.length):({S with g9:=S.g9.set x l}:bJ).g v=if v=x then l else S.g v:=by
 grind[bJ.g]
theorem uB(h:cF n V a S aT dv es H)(aj:V<=1000000){x y:Nat}(aE:x<V)(aU:y<V):W (aK P aG 221 [.ptr (a+6) 0 0,D F x,D F y] H) λr H'=>r= .tuple []/\So n V a (ib S x y) (λo=>V<=o/\o<2*V) dv H H':=by
 refine aeE 0 ?_;have N:ei P 312 [(0,D F (x:Nat)),(1,D F (y:Nat))]=A (h6 (x,y)).1:=JV rfl rfl;have E:=abj h.dX (x,y);have be:=h.lt;have M:=au.push H (.row I 0 [[]]);have ah:=h.aB M;have ab:cr P (H.push (.row I 0 [[]])) 310 (.ptr H.next 0 0) (.agg [])=A ((H.push (.row I 0 [[]])).set H.next (.row I 0 [[]])):=by
  rw[e4 (n:=0) aF (ae.a2 H (.row I 0 [[]])) rfl rfl rfl bZ];rfl
 by_cases hm:(x,y)∈es
 ·have ap:=((h.kc x y).1 hm).2;rw[decide_eq_true hm]at E;refine bh @wy.eq_1 (gy h.bX) N E ab @ae.gU ?_;exact aD.2 ⟨rfl,aT,dv,es,by grind[ib],λ_ _=>rfl,.aB M⟩
 ·rw[decide_eq_false hm]at E;have ap:y∉S.g x:=λe=>hm ((h.kc x y).2 ⟨aE,e⟩)
  by_cases an:x=y
  ·have u:(((x:Nat):Int)==((y:Nat):Int))=true:=al;refine bh @wy.eq_1 (gy h.bX) N E ab (ag @ae.gU u) ?_;exact aD.2 ⟨rfl,aT,dv,es,by grind[ib],λ_ _=>rfl,.aB M⟩
  ·have u:(((x:Nat):Int)==((y:Nat):Int))=false:=beq_eq_false_iff_ne.2 λe=>an ad
   have up:=ajq ah.dX (x,y) hm;obtain⟨Y,a5⟩:=ah.other (c:=4) ad (.map ((es++[(x,y)]).map h6));have am:=a5 fx (ah.g x aE);have bf:((H.push (.row I 0 [[]])).set (a+4) (.map ((es++[(x,y)]).map h6))).next=H.next+1:=aX
   have R:=(Y (a+6) ad).trans ah.bX;have Q:=(Y (a+1) ad).trans ah.fO;have a_:((H.push (.row I 0 [[]])).set (a+4) (.map ((es++[(x,y)]).map h6))).get (a+4)=A (.map ((es++[(x,y)]).map h6)):=ae.cH (by simp;omega);have bc:=h.L_ x;generalize ba:(H.push (.row I 0 [[]])).set (a+4) (.map ((es++[(x,y)]).map h6))=j at*;obtain⟨d,f,a1,bd,bn,bI,bY,ch⟩:=aY.qo (K:=aN) (ok:=bb) (ok':=bb) b0 am ad (au.refl j) (a:=(y:Int)) (cs:=[D F (y:Nat)]) rfl (λ_ _=>trivial) (by simp[aQ];omega);have ax:eA P (j.push (.row I 1 [[D F (y:Nat)]])) [30,30] (dv x) (.az j.next 0 1 1 (A 1))=A (d,f):=a1
   have av:=au.push j (.row I 1 [[D F (y:Nat)]]);have aq:∀k,k<a+7->f.get k=j.get k:=λk t=>bn.2 k t
   have ai:=(aq (a+6) ad).trans R;have aC:=(aq (a+1) ad).trans Q;have aS:=bd.az.one;have ak:=dq aS;have a8:cr P f 30 (.ptr (a+1) x 0) d=A (f.set (a+1) (.row I 1 ((List.range V).map λk=>[dj dv x d k]))):=by
    rw[e4 (n:=1) aF aC (e:=[dv x]) (by simp[aE]) (by rw[ak];rfl) al bZ,ak,<-FW aE];rfl
   have hle:(j.push (.row I 1 [[D F (y:Nat)]])).next<=f.next:=by simp;omega
   have aV:aI P j 30 (.ptr (a+1) x 0)=A (dv x):=by rw[e0 aF Q (e:=[dv x]) al];rfl
   have a0:aI P (j.push (.row I 1 [[D F (y:Nat)]])) 30 (.ptr (a+1) x 0)=A (dv x):=by rw[e0 aF (av.get Q) (e:=[dv x]) (by simp[aE])];rfl
   have a7:bF (A (dv x)) (dv x)=true:=dF am.az;have a6:∀l i n e c,bF (A (.az l i n e c)) (.az l i n e c)=true:=λl i n e c=>by simp[bF,af.beq]
   have L7:=h.aR;have U:∀k,k<H.next->k≠a+4->k≠a+1->dr (dv x)≠A k->(f.set (a+1) (.row I 1 ((List.range V).map λk=>[dj dv x d k]))).get k=H.get k:=λk t aM T aw=>by
    rw[ae.b8 (Ne.symm T),bY k ad (λL n c e=>by rintro rfl;rw[e]at aw;exact aw rfl),Y k aM,M.2 k t]
   have B:∀k,k<a+7->k≠a+4->k≠a+1->(f.set (a+1) (.row I 1 ((List.range V).map λk=>[dj dv x d k]))).get k=H.get k:=λk t aM T=>U k ad aM T λe=>by have:=(h.jW (o:=x) ad e).1;omega
   have aa:∀o L,o<=2*V->o≠x->dr (dv o)=A L->(f.set (a+1) (.row I 1 ((List.range V).map λk=>[dj dv x d k]))).get L=H.get L:=λo L aZ aO e=>by
    have aw:=h.jW aZ e;exact U L aw.2 ad ad λO=>aO (h.hg _ _ L aZ ad e O)
   have bg:=ae.bq ai;have a4:∀L,dr d=A L->dr (dv x)=A L\/∀gT,gT<=2*V->dr (dv gT)≠A L:=by
    intro L e;rcases ch with z|⟨a3,z⟩
    ·grind
    ·rw[z]at e;cases e;exact .inr λgT aP O=>by have:=(h.jW aP O).2;omega
   have aM:cF n V a {S with g9:=S.g9.set x (S.g x++[y])} aT (dj dv x d) (es++[(x,y)]) (f.set (a+1) (.row I 1 ((List.range V).map λk=>[dj dv x d k]))):=
    {
     bX:=by rw[B _ ad ad ad,Se _ _ _ _ _ ad];exact h.bX
     cj:=by rw[B _ ad ad ad];exact h.cj
     fO:=ae.cH ad
     ic:=by rw[B _ ad ad ad,Ac (dv:=λv=>dv (V+v)) (λv G=>fk _ _ ad)];exact h.ic
     hk:=by rw[B _ ad ad ad];exact h.hk
     dX:=by grind[ae.b8]
     cQ:=by rw[B _ ad ad ad];exact h.cQ
     cq:=h.cq,aR:=al,hn:=h.hn,ls:=h.ls,lw:=h.lw
     g:=λv G=>by
      rw[zd ad];by_cases e:v=x
      ·subst e;rw[if_pos rfl,hj];have aA:aQ (S.g v++[y])=aQ (S.g v)++[(y:Int)]:=by simp[aQ]
       rw[aA];exact bd.frame fx λL m=>by
        rw[ae.b8];have:=(bd.jn m).1;omega
      ·rw[if_neg e,fk _ _ e];exact(h.g v G).frame fx λL m=>aa v L ad e m
     q:=λv G=>by
      rw[fk _ _ ad];exact(h.q v G).frame pC λL m=>aa (V+v) L ad ad m
     w:=by rw[fk _ _ ad];exact h.w.frame fx λL m=>aa (2*V) L (du _) ad m
     wn:=by rw[fk _ _ ad];exact h.wn
     hg:=En h.hg ad a4
     perm:=h.perm
     kc:=λp q=>by
      rw[zd ad,List.mem_append,h.kc];grind
     ka:=λv=>by
      rw[zd ad];split
      ·rw[List.nodup_append];exact⟨h.ka x,aX,λa aL b aj=>al⟩
      ·exact h.ka v
     jT:=λv b s=>by
      rw[zd ad]at s;split at s
      ·rcases List.mem_append.1 s with s|s
       ·exact h.jT x b s
       grind
      ·exact h.jT v b s
     j5:=h.j5,j4:=h.j4,wt:=h.wt,fb:=h.fb}
   have aH:=aM.bX;refine bh @wy.eq_1 (gy h.bX) (gy ah.bX) N E (ag ab (ag @ae.gU (ag u (ag up (ag (gy R) (ag (gy (av.get R)) (ag (gy ai) (ag (h5 dP aE) (ag aV (ag a0 (ag @c2 (ag ax (ag a8 (ag a7 (ag a6 (ag (gy aH) (ag (h5 qU aE) (aM.qQ aE)))))))))))))))))) ?_;refine cK (EL aM aj aU (h.fb x) (h.fb y)) ?_;rintro _ a9 ⟨rfl,wk',ay,es',aJ,t,ar⟩;have f4:Fr V a dv (dj dv x d) H (f.set (a+1) (.row I 1 ((List.range V).map λk=>[dj dv x d k]))):=by
    refine⟨by simp;omega,λk t aL aw=>⟨U k t ad ad (aw x ad),λo aZ e=> ?_⟩⟩;by_cases u:o=x
    ·subst u;rw[hj]at e;rcases ch with z|⟨a3,z⟩
     ·grind
     ·rw[z]at e;cases e;omega
    grind[fk]
   refine⟨ar.1,aD.2 ⟨rfl,wk',ay,es',?_,λo aZ=>by grind[fk],f4.trans ar⟩⟩;rw[ib,if_neg (λe=>e.elim ap an)];exact aJ
end
end
section
open Go.a_
set_option maxRecDepth 2000
theorem Pn{S:bJ}{x v:Nat}{l:List a_.Ask}(aE:x<S.asks.length):({S with asks:=S.asks.set x l}:bJ).q v=if v=x then l else S.q v:=by
 grind[bJ.q]
section
variable {n V a:Nat}{S:bJ}{aT:List Int}{dv:Nat->af}{es:List (Nat×Nat)}{H:ae}
theorem cF.JM(h:cF n V a S aT dv es H){x:Nat}(aE:x<V)(q:a_.Ask)(aw:(S.q x).length<=999999998):
  ∃b d,eA P (H.push (.row I 3 [ig q])) [284,284] (dv (V+x)) (.az H.next 0 1 3 (A 1))=A (b,d)/\d.get (a+6)=A (.row I 9 [im n V a dv])/\(H.push (.row I 3 [ig q])).next<=d.next/\(∀k,k<H.next->(k<a\/a+7<=k)->(∀o,o<=2*V->dr (dv o)≠A k)->d.get k=H.get k)/\
   cr P d 284 (.ptr (a+2) x 0) b=A (d.set (a+2) (.row I 1 ((List.range V).map λk=>[dj dv (V+x) b (V+k)])))/\
   cF n V a (lC S x q) aT (dj dv (V+x) b) es (d.set (a+2) (.row I 1 ((List.range V).map λk=>[dj dv (V+x) b (V+k)])))/\Fr V a dv (dj dv (V+x) b) H (d.set (a+2) (.row I 1 ((List.range V).map λk=>[dj dv (V+x) b (V+k)]))):=by
 have E:=h.lt;have T:=h.hn;obtain⟨b,d,a1,bd,bn,bI,bY,ch⟩:=aY.qo (K:=yv) (ok:=bb) (ok':=bb) uV (h.q x aE) E (au.refl H) (a:=q) (cs:=ig q) rfl (λ_ _=>trivial) ad;have r:∀k,k<a+7->d.get k=H.get k:=λk f=>bn.2 k f
 have y:=(r (a+2) ad).trans h.ic;have N:=bd.az.one;have B:=dq N;have rs:((List.range V).map λk=>[dv (V+k)]).set x [b]=(List.range V).map λk=>[dj dv (V+x) b (V+k)]:=by
  rw[FW aE (λk=>dv (V+k)) b];grind[dj]
 have R:cr P d 284 (.ptr (a+2) x 0) b=A (d.set (a+2) (.row I 1 ((List.range V).map λk=>[dj dv (V+x) b (V+k)]))):=by
  rw[e4 (n:=1) aF y (e:=[dv (V+x)]) al al al bZ,B,<-rs];rfl
 have s:∀k,k<H.next->k≠a+2->dr (dv (V+x))≠A k->(d.set (a+2) (.row I 1 ((List.range V).map λk=>[dj dv (V+x) b (V+k)]))).get k=H.get k:=λk f p aw=>by
  rw[ae.b8 ad];exact bY k f (λL n c e=>by rintro rfl;rw[e]at aw;exact aw rfl)
 have i:∀k,k<a+7->k≠a+2->(d.set (a+2) (.row I 1 ((List.range V).map λk=>[dj dv (V+x) b (V+k)]))).get k=H.get k:=λk f p=>s k ad p λe=>by have:=(h.jW (o:=V+x) ad e).1;omega
 have U:∀o L,o<=2*V->o≠V+x->dr (dv o)=A L->(d.set (a+2) (.row I 1 ((List.range V).map λk=>[dj dv (V+x) b (V+k)]))).get L=H.get L:=λo L aZ G e=>by
  have aw:=h.jW aZ e;exact s L aw.2 ad λm=>G (h.hg _ _ L aZ ad e m)
 have Q:∀L,dr b=A L->dr (dv (V+x))=A L\/∀gT,gT<=2*V->dr (dv gT)≠A L:=by
  intro L e;rcases ch with j|⟨O,j⟩
  ·grind
  ·rw[j]at e;cases e;exact .inr λgT M m=>by have:=(h.jW M m).2;omega
 refine⟨b,d,a1,(r _ ad).trans h.bX,by simp;omega,λk f z aw=>bY k f (λL n c e=>by rintro rfl;exact aw (V+x) ad (by rw[e];rfl)),R,?_,by simp;omega,λk f z aw=>⟨al,λo aZ e=> ?_⟩⟩
 ·exact {
   bX:=by rw[i _ ad ad,Se _ _ _ _ _ ad];exact h.bX
   cj:=by rw[i _ ad ad];exact h.cj
   fO:=by rw[i _ ad ad,Ac (λv l=>fk _ _ ad)];exact h.fO
   ic:=ae.cH ad
   hk:=by rw[i _ ad ad];exact h.hk
   dX:=by rw[i _ ad ad];exact h.dX
   cQ:=by rw[i _ ad ad];exact h.cQ
   cq:=h.cq,aR:=h.aR,hn:=by grind[lC],ls:=h.ls,lw:=h.lw
   g:=λv l=>by
    rw[fk _ _ ad];exact(h.g v l).frame fx al
   q:=λv l=>by
    rw[lC,Pn ad];by_cases e:v=x
    ·subst e;rw[if_pos rfl,hj];exact bd.frame pC λL u=>by
      rw[ae.b8];have:=(bd.jn u).1;omega
    ·rw[if_neg e,fk _ _ ad];exact(h.q v l).frame pC al
   w:=by rw[fk _ _ ad];exact h.w.frame fx al
   wn:=by rw[fk _ _ ad];exact h.wn
   hg:=En h.hg ad Q
   perm:=h.perm,kc:=h.kc,ka:=h.ka,jT:=h.jT,j5:=h.j5,j4:=h.j4,wt:=h.wt,fb:=h.fb}
 ·by_cases t:o=V+x
  ·subst t;rw[hj]at e;rcases ch with j|⟨O,j⟩
   ·grind
   ·rw[j]at e;cases e;omega
  grind[fk]
theorem RA{c:bp}{x y m:Nat}(aA:cU c=[D F 5,D F x,D F y,D F 0])(aE:x<m)(K:y<m)(E:V=n+m*8)(d:V<=1000000){zI:Nat}{N:Nat}:∀(j k q:Nat) (S:bJ) (aT:List Int) (dv:Nat->af) (es:List (Nat×Nat)) (H:ae),k+j=8->j<q->cF n V a S aT dv es H->
  H.get zI=A (.row I 4 [cU c])->(zI<a\/a+7<=zI)->(∀o,o<=2*V->dr (dv o)≠A zI)->
  W (v7 (aK P aG) N q (.ptr (a+6) 0 0) (.ptr zI 0 0) (D F 8) (D F k) H) λr H'=>r= .tuple []/\So n V a (mU n S x y ((List.range 8).drop k)) (λ_=>False) dv H H'
 |_,_,0,_,_,_,_,_,_,hm,_,_,_,_=>ad
 |0,k,q+1,S,aT,dv,es,H,G,_,h,U,b,s=>by
  have Y:¬(k:Int)<8:=ad;refine bG @v7.eq_2 @Be.eq_1 ?_;rw[List.drop_of_length_le al];exact aD.2 ⟨rfl,aT,dv,es,h,λ_ f=>f.elim,.refl _ _ _ _⟩
 |j+1,k,q+1,S,aT,dv,es,H,G,hm,h,U,b,s=>by
  have aa:=h.lt;have L:=ae.bq U;have on:=RA aA aE K E d (zI:=zI) (N:=N) j (k+1) q;have g:dd n x k<V:=by unfold dd;omega
  have i:dd n y k<V:=by unfold dd;omega
  have u:(List.range 8).drop k=k::(List.range 8).drop (k+1):=by
   grind[List.drop_eq_getElem_cons]
  rw[u,mU];have l:=fZ U aA;refine b3 @v7.eq_2 @Be.eq_1 l ?_;refine dK (qH h.bX ad) ?_;refine bP l ?_;refine dK (qH h.bX ad) ?_;refine cK (uB h d g i) ?_;rintro _ H1 ⟨rfl,ab,qA,T,ah,_,f1⟩;refine⟨f1.1,?_⟩;obtain⟨z,M⟩:=f1.2 zI L b s;have p:=z.trans U;have e:=fZ p aA;refine bG l e ?_;refine dK (qH ah.bX ad) ?_;refine bP e ?_;refine dK (qH ah.bX ad) ?_;refine cK (uB ah d i g) ?_;rintro _ t ⟨rfl,O,hh,v,ai,_,f2⟩;refine⟨f2.1,?_⟩;obtain⟨B,E5⟩:=f2.2 zI (by have:=f1.1;omega) b M;refine bP e ?_;refine(on _ O hh v t ad ad ai (B.trans p) b E5).mono ?_;rintro r R ⟨rfl,Q,n2,w,ax,_,f3⟩;exact⟨rfl,Q,n2,w,ax,λ_ f=>f.elim,(f1.trans f2).trans f3⟩
theorem UK{m:Nat}(h:cF n V a S aT dv es H)(O:V=n+m*8)(s:V<=1000000)(hm:m<=60){c:bp}(hw:c.wf n m)(Y:∀v,(S.q v).length<=900000000):W (aK P aG 180 [.ptr (a+6) 0 0,.agg (cU c)] H) λr H'=>r= .tuple []/\So n V a (sh n S c) (λ_=>False) dv H H':=by
 refine ael 9 ?_;have L:=au.push H (.row I 4 [cU c]);have g:=ae.a2 H (.row I 4 [cU c]);have b:=h.aB L;have U:=h.lt;have u:∀o,o<=2*V->dr (dv o)≠A H.next:=λo aZ e=>by have:=(h.jW aZ e).2;omega
 have j:∀{K:bJ} {keep:Nat->Prop} {H':ae},So n V a K keep dv (H.push (.row I 4 [cU c])) H'->So n V a K (λ_=>False) dv H H':=λ⟨wk',N,es',Q,aa,R⟩=>⟨wk',N,es',Q,λ_ f=>f.elim,(Fr.aB L).trans R⟩
 cases c with
 |base x y=>
  have l:=fZ g rfl;simp-implicitDefEqProofs(disch:=try exact aW)only[q9,reduceAdd,reduceLeDiff,reduceIte,bB,ji,l,Int.reduceBEq,agE _ _ (show y<64 by have:=hw.2;omega)];refine cK (EL b s (v:=x) (x:=1<<<y) (by have:=hw.1;omega) ?_ (h.fb x)) ?_
  ·rw[Nat.shiftLeft_eq,Nat.one_mul];exact Nat.pow_lt_pow_right ad (by have:=hw.2;omega)
  rintro _ H1 ⟨rfl,q⟩;exact⟨q.choose_spec.choose_spec.choose_spec.2.2.1,aD.2 ⟨rfl,j q⟩⟩
 |copy x y=>
  have l:=fZ g rfl;simp-implicitDefEqProofs(disch:=try exact aW)only[q9,reduceAdd,reduceLeDiff,reduceIte,bB,ji,l,Int.reduceBEq];refine cK (uB b s (x:=y) (y:=x) (by have:=hw.2;omega) (by have:=hw.1;omega)) ?_;rintro _ H1 ⟨rfl,q⟩;exact⟨q.choose_spec.choose_spec.choose_spec.2.2.1,aD.2 ⟨rfl,j q⟩⟩
 |load x y f=>
  have l:=fZ g rfl;have d:y<V:=by have:=hw.1;have:=hw.2.1;omega
  obtain⟨T,M,a1,p,bn,bI,st,ax,f3⟩:=b.JM d ⟨J,x,f⟩ al;have k:ei P 286 [(0,D F 3),(1,D F (x:Nat)),(2,D F (f:Nat))]=A (.agg (ig ⟨J,x,f⟩)):=D3 rfl rfl rfl;have az:=mW uV (H.push (.row I 4 [cU (.load x y f)])).next (v:= .agg (ig ⟨J,x,f⟩)) (cs:=ig ⟨J,x,f⟩) rfl rfl rfl
  have pp:=au.push (H.push (.row I 4 [cU (.load x y f)])) (.row I 3 [ig ⟨J,x,f⟩]);have l2:=fZ (pp.get g) rfl;have w:=fZ ((bI H.next aX ad u).trans g) rfl;have t:=(pp.get b.bX);have z:aI P (H.push (.row I 4 [cU (.load x y f)])) 284 (.ptr (a+2) y 0)=A (dv (V+y)):=b.uS d;have B:=(b.aB pp).uS d;have G:=dF (b.q y d).az;have E:∀l i n e c,bF (A (.az l i n e c)) (.az l i n e c)=true:=λl i n e c=>by simp[bF,af.beq]
  simp only[kD]at az a1 bn;simp-implicitDefEqProofs(disch:=try exact aW)only[q9,reduceAdd,reduceLeDiff,reduceIte,bB,ji,l,Int.reduceBEq,gy b.bX,nj Ff d,z,k,az,a1,gy p,w,l2,gy t,B,st,G,E,fp,Bool.and_self,Bool.and_true];exact aD.2 ⟨rfl,j (keep:=λ_=>False) ⟨aT,_,es,ax,λ_ f=>f.elim,f3⟩⟩
 |store x y f=>
  have l:=fZ g rfl;have d:x<V:=by have:=hw.1;omega
  obtain⟨T,M,a1,p,bn,bI,st,ax,f3⟩:=b.JM d ⟨I,y,f⟩ al;have k:ei P 286 [(0,D F 4),(1,D F (y:Nat)),(2,D F (f:Nat))]=A (.agg (ig ⟨I,y,f⟩)):=D3 rfl rfl rfl;have az:=mW uV (H.push (.row I 4 [cU (.store x y f)])).next (v:= .agg (ig ⟨I,y,f⟩)) (cs:=ig ⟨I,y,f⟩) rfl rfl rfl
  have pp:=au.push (H.push (.row I 4 [cU (.store x y f)])) (.row I 3 [ig ⟨I,y,f⟩]);have l2:=fZ (pp.get g) rfl;have w:=fZ ((bI H.next aX ad u).trans g) rfl;have t:=(pp.get b.bX);have z:aI P (H.push (.row I 4 [cU (.store x y f)])) 284 (.ptr (a+2) x 0)=A (dv (V+x)):=b.uS d;have B:=(b.aB pp).uS d;have G:=dF (b.q x d).az;have E:∀l i n e c,bF (A (.az l i n e c)) (.az l i n e c)=true:=λl i n e c=>by simp[bF,af.beq]
  simp only[kD]at az a1 bn;simp-implicitDefEqProofs(disch:=try exact aW)only[q9,reduceAdd,reduceLeDiff,reduceIte,bB,ji,l,Int.reduceBEq,gy b.bX,nj Ff d,z,k,az,a1,gy p,w,l2,gy t,B,st,G,E,fp,Bool.and_self,Bool.and_true];exact aD.2 ⟨rfl,j (keep:=λ_=>False) ⟨aT,_,es,ax,λ_ f=>f.elim,f3⟩⟩
 |same x y=>
  have l:=fZ g rfl;simp-implicitDefEqProofs(disch:=try exact aW)only[q9,reduceAdd,reduceLeDiff,reduceIte,bB,ji,l,Int.reduceBEq,gy b.bX];refine(RA (c:= .same x y) rfl hw.1 hw.2 O s (zI:=H.next) 8 0 9 S aT dv es _ ad ad b g ad u).mono ?_;rintro r H' ⟨rfl,q⟩;exact⟨rfl,j q⟩
end
end
section
open Go.a_
set_option maxRecDepth 2000
def Nz(S:bJ)(v u:Nat):(iY S v).q u=S.q u:=by unfold iY;split<;>rfl
def abg(S:bJ)(v u:Nat):(iY S v).g u=S.g u:=by unfold iY;split<;>rfl
def MP(S:bJ)(v x u:Nat):(gx S v x).q u=S.q u:=by
 unfold gx;split
 ·rfl
 ·rw[Nz];rfl
theorem Z_(S:bJ)(v x u:Nat):(gx S v x).g u=S.g u:=by
 unfold gx;split
 ·rfl
 ·rw[abg];rfl
theorem sw(S:bJ)(x y u:Nat):(ib S x y).q u=S.q u:=by
 unfold ib;split
 ·rfl
 ·rw[MP];rfl
def T6(n t:Nat)(S:bJ)(q:a_.Ask)(u:Nat):(nY n t S q).q u=S.q u:=by
 grind[nY,sw]
theorem DT(n t:Nat):∀(qs:List a_.Ask) (S:bJ) (u:Nat),(lz n t qs S).q u=S.q u
 |[],_,_=>rfl
 |q::qs,S,u=>by rw[lz,DT n t qs,T6]
section
variable {n V a:Nat}{S:bJ}{aT:List Int}{dv:Nat->af}{es:List (Nat×Nat)}{H:ae}
def aaz{q:a_.Ask}{L:Nat}(h:H.get L=A (.row I 3 [ig q])):aI P H 3 (.ptr L 0 0)=A (D F (if q.fu then 3 else 4))/\aI P H 3 (.ptr L 0 1)=A (D F (q.o:Nat))/\aI P H 3 (.ptr L 0 2)=A (D F (q.f:Nat)):=by
 rw[ig]at h;exact kz h
theorem ahn{q:a_.Ask}{L:Nat}{r:List af}(h:H.get L=A (.row I 3 [r]))(ar:r.length=3:=by rfl):cr P H 286 (.ptr L 0 0) (.agg (ig q))=A (H.set L (.row I 3 [ig q])):=by
 rw[e4 (n:=3) aF h rfl rfl (by simp[ig,af.cells,af.one]) bZ];grind[ig,af.cells,fU,List.drop_of_length_le]
theorem Jw{qs:List a_.Ask}{v t m:Nat}(B:v<V)(ba:t<m)(O:V=n+m*8)(g:V<=1000000)(z:∀q∈qs,q.o<V/\q.f<8)(R:qs.length<=1000000000){N:Nat}:∀(j k r:Nat) (S:bJ) (aT:List Int) (dv:Nat->af) (es:List (Nat×Nat)) (H:ae),k+j=qs.length->j<r->cF n V a S aT dv es H->S.q v=qs->
  W (tr (aK P aG) N r (.ptr (a+6) 0 0) (D F t) (dv (V+v)) (D F qs.length) (D F k) H) λr H'=>r= .tuple []/\So n V a (lz n t (qs.drop k) S) (λo=>V<=o/\o<2*V) dv H H'
 |_,_,0,_,_,_,_,_,_,hm,_,_=>ad
 |0,k,r+1,S,aT,dv,es,H,Q,_,h,aJ=>by
  have s:¬(k:Int)<(qs.length:Int):=ad;refine bG @tr.eq_2 @wA.eq_1 ?_;rw[List.drop_of_length_le ad];exact aD.2 ⟨rfl,aT,dv,es,h,λ_ _=>rfl,.refl _ _ _ _⟩
 |j+1,k,r+1,S,aT,dv,es,H,Q,hm,h,aJ=>by
  have s:(k:Int)<(qs.length:Int):=ad;have y:k<qs.length:=ad;have on:=Jw B ba O g z R (N:=N) j (k+1) r;have aw:=h.q v B;rw[aJ]at aw;obtain⟨p,cs,E,G,rfl⟩:=aw.az.yG (K:=yv) uV Sj (j:=(k:Int)) (a:=qs[k]) ad al;obtain⟨aZ,aC⟩:=z _ (List.getElem_mem y);have u:=au.push H (.row I 3 [ig qs[k]]);have ah:=h.aB u;have st:=ahn (q:=qs[k]) (ae.a2 H (.row I 3 [[D F 0,D F 0,D F 0]]));have l:=aaz (ae.a2 H (.row I 3 [ig qs[k]]));have ff:dd n t qs[k].f<V:=by unfold dd;omega
  have L:=fB (show k<=1000000000 by omega);rw[List.drop_eq_getElem_cons y,lz,nY];cases x:qs[k].fu with
  |true=>
   rw[x]at l;simp-implicitDefEqProofs(disch:=try exact aW)only[tr,wA,reduceAdd,reduceLeDiff,reduceIte,bB,s,decide_true,E,G _ (au.refl _),st,ae.gU,l,Int.reduceBEq];refine dK (qH ah.bX ad) ?_;refine bP l ?_;refine cK (uB ah g ff aZ) ?_;rintro _ H1 ⟨rfl,wk',d,es',ai,b,f2⟩;refine⟨f2.1,?_⟩;refine b3 @He.eq_1 l L ?_;have c:=on _ wk' d es' H1 ad ad ai (by grind[sw]);rw[b (V+v) ⟨ad,ad⟩]at c;refine c.mono ?_;rintro r M ⟨rfl,w,n2,e,ax,i,f3⟩;exact⟨rfl,w,n2,e,ax,λo aZ=>(i o aZ).trans (b o aZ),((Fr.aB u).trans f2).trans f3⟩
  |false=>
   rw[x]at l;simp only[Bool.false_eq_true,if_false]at l;simp-implicitDefEqProofs(disch:=try exact aW)only[tr,wA,reduceAdd,reduceLeDiff,reduceIte,bB,s,decide_true,E,G _ (au.refl _),st,ae.gU,l,Int.reduceBEq];refine dK (qH ah.bX ad) ?_;refine bP l ?_;refine cK (uB ah g aZ ff) ?_;rintro _ H1 ⟨rfl,wk',d,es',ai,b,f2⟩;refine⟨f2.1,?_⟩;refine b3 @He.eq_1 l L ?_;have c:=on _ wk' d es' H1 ad ad ai (by grind[sw]);rw[b (V+v) ⟨ad,ad⟩]at c;refine c.mono ?_;rintro r M ⟨rfl,w,n2,e,ax,i,f3⟩;exact⟨rfl,w,n2,e,ax,λo aZ=>(i o aZ).trans (b o aZ),((Fr.aB u).trans f2).trans f3⟩
def T7{v t m:Nat}(h:cF n V a S aT dv es H)(b:v<V)(ba:t<m)(c:V=n+m*8)(d:V<=1000000)(g:∀q∈S.q v,q.o<V/\q.f<8)(e:(S.q v).length<=1000000000):W (aK P aG 225 [.ptr (a+6) 0 0,D F v,D F t] H) λr H'=>r= .tuple []/\So n V a (lz n t (S.q v) S) (λo=>V<=o/\o<2*V) dv H H':=by
 refine aeH ((S.q v).length+1) ?_;refine c_ @Hd.eq_1 (gy h.bX) (h5 Ff b) (h.uS b) ((h.q v b).az.bg uV) ?_;exact Jw b ba c d g e (S.q v).length 0 ((S.q v).length+1) S aT dv es H ad ad h rfl
structure Own(V a:Nat)(dv:Nat->af)(H:ae)(l:List Int)(x:af):Prop where
 b:∃B,aY aN B bb H l x
 o:∀L,dr x=some L->L<H.next/\(L<a\/a+7<=L)/\∀o,o<=2*V->dr (dv o)≠some L
def Own.fy{b:Nat->af}{H':ae}{l:List Int}{x:af}(h:Own V a dv H l x)(f:Fr V a dv b H H'):Own V a b H' l x:=by
 obtain⟨⟨B,c⟩,aZ⟩:=h;refine⟨⟨B,c.frame fx λL e=> ?_⟩,λL e=> ?_⟩
 ·obtain⟨ah,ai,ax⟩:=aZ L e;exact(f.2 L ah ai ax).1
 ·obtain⟨ah,ai,ax⟩:=aZ L e;exact⟨Nat.lt_of_lt_of_le ah f.1,ai,(f.2 L ah ai ax).2⟩
theorem JL{ts:List Nat}{v m:Nat}{x:af}(u:v<V)(i:V=n+m*8)(l:V<=1000000)(s:∀t∈ts,t<m)(aw:ts.length<=1000000000){L0:af->ae->O}{Q:af->ae->Prop}{N:Nat}:∀(j k r:Nat) (S:bJ) (aT:List Int) (dv:Nat->af) (es:List (Nat×Nat)) (H:ae),k+j=ts.length->j<r->cF n V a S aT dv es H->Own V a dv H (aQ ts) x->(∀q∈S.q v,q.o<V/\q.f<8)->(S.q v).length<=1000000000->
  (∀c wk' d es' H',cF n V a c wk' d es' H'->Fr V a dv d H H'->c=p7 n v (ts.drop k) S->W (Bi (aK P aG) N L0 (.ptr (a+6) 0 0) (D F v) H') Q)->
  W (v_ (aK P aG) N L0 r (.ptr (a+6) 0 0) (D F v) x (D F ts.length) (D F k) H) Q
 |_,_,0,_,_,_,_,_,_,hm,_,_,_,_,_=>ad
 |0,k,r+1,S,aT,dv,es,H,E,_,h,aE,_,_,fin=>by
  have T:¬(k:Int)<(ts.length:Int):=ad;refine bG @v_.eq_2 @Bh.eq_1 ?_;exact fin S aT dv es H h (.refl _ _ _ _) (by rw[List.drop_of_length_le ad];rfl)
 |j+1,k,r+1,S,aT,dv,es,H,E,hm,h,aE,K,G,fin=>by
  have g:k<ts.length:=ad;have on:=JL (x:=x) u i l s aw (L0:=L0) (Q:=Q) (N:=N) j (k+1) r;obtain⟨B,z⟩:=aE.b;obtain⟨p,L,M⟩:=z.az.int (j:=(k:Int)) (a:=(ts[k]:Int)) ad (by simp[aQ,g]);rw[List.drop_eq_getElem_cons g]at fin;refine cv @v_.eq_2 @Bh.eq_1 L M ?_;refine cK (T7 h u (s _ (List.getElem_mem g)) i l K G) ?_;rintro _ H1 ⟨rfl,wk',d,es',ah,_,f1⟩;refine⟨f1.1,?_⟩;refine bN ?_;refine on _ wk' d es' H1 ad ad ah (aE.fy f1) (by grind[DT]) (by grind[DT]) λc R hh y w ai f2 e=>fin c R hh y w ai (f1.trans f2) e
theorem LL{bs:List Nat}{v:Nat}(f:v<V)(l:V<=1000000)(m:∀b∈bs,b<V)(aw:bs.length<=1000000000){L0:af->ae->O}{Q:af->ae->Prop}{N:Nat}:∀(j k r:Nat) (S:bJ) (aT:List Int) (dv:Nat->af) (es:List (Nat×Nat)) (H:ae),k+j=bs.length->j<r->cF n V a S aT dv es H->S.g v=bs->
  (∀c wk' d es' H',cF n V a c wk' d es' H'->Fr V a dv d H H'->c=ml v (bs.drop k) S->W (L0 (.ptr (a+6) 0 0) H') Q)->
  W (v8 (aK P aG) N L0 r (.ptr (a+6) 0 0) (D F v) (dv v) (D F bs.length) (D F k) H) Q
 |_,_,0,_,_,_,_,_,_,hm,_,_,_=>ad
 |0,k,r+1,S,aT,dv,es,H,t,_,h,aJ,fin=>by
  have z:¬(k:Int)<(bs.length:Int):=ad;refine bG @v8.eq_2 @Bg.eq_1 ?_;exact fin S aT dv es H h (.refl _ _ _ _) (by rw[List.drop_of_length_le ad];rfl)
 |j+1,k,r+1,S,aT,dv,es,H,t,hm,h,aJ,fin=>by
  have i:k<bs.length:=ad;have on:=LL f l m aw (L0:=L0) (Q:=Q) (N:=N) j (k+1) r;have o:=h.g v f;rw[aJ]at o;obtain⟨p,u,w⟩:=o.az.int (j:=(k:Int)) (a:=(bs[k]:Int)) ad (by simp[aQ,i]);rw[List.drop_eq_getElem_cons i]at fin;refine bh @v8.eq_2 @Bg.eq_1 u w (gy h.bX) (ag (h5 qU f) (h.qQ f)) ?_;refine cK (EL h l (m _ (List.getElem_mem i)) (h.fb v) (h.fb _)) ?_;rintro _ H1 ⟨rfl,wk',d,es',ah,y,f1⟩;refine⟨f1.1,?_⟩;refine bN ?_;have B:=on _ wk' d es' H1 ad ad ah (by grind[Z_]) λc x hh s q ai f2 e=>fin c x hh s q ai (f1.trans f2) e
  grind
end
end
section
open Go.a_
set_option maxRecDepth 2000
def Uo{n m V:Nat}{l:List bp}{zX:Nat->Prop}{Y:Nat->Nat->Prop}{S:bJ}(i:er n m l zX Y S)(a:gg n m l)(b:V=n+m*8)(v:Nat):∀q∈S.q v,q.o<V/\q.f<8:=by
 intro q aJ;rcases i.qs v q aJ with⟨_,h⟩|⟨_,h⟩
 ·have:=a _ h;exact⟨by have:=this.1;omega,this.2.2⟩
 ·have:=a _ h;exact⟨by have:=this.2.1;omega,this.2.2⟩
section
variable {n V a m:Nat}{l:List bp}{S:bJ}{aT:List Int}{dv:Nat->af}{es:List (Nat×Nat)}{H:ae}
theorem Me(E:gg n m l)(O:V=n+m*8)(ak:0<V)(Q:V<=1000000)(hm:m<=60){N:Nat}(a1:V+65<N):∀(r:Nat) (S:bJ) (aT:List Int) (dv:Nat->af) (es:List (Nat×Nat)) (H:ae),S.M<r->cF n V a S aT dv es H->lu n m l S->(∀v,(S.q v).length<=1000000000)->
  W (Bj (aK P aG) N r (.ptr (a+6) 0 0) H) λr H'=>r= .tuple []/\∃B wk' aa es',cF n V a B wk' aa es' H'/\lu n m l B/\rV S B/\B.work=[]/\Fr V a dv aa H H'
 |0,_,_,_,_,_,ar,_,_,_=>ad
 |r+1,S,aT,dv,es,H,ar,h,i,bt=>by
  have hlen:W (aK P aG 223 [dv (2*V)] H) λr H'=>r= D F (aT.length:Nat)/\H'=H:=by
   refine Ga 0 ?_;refine bG @wz.eq_1 (h.w.az.bg mG) ?_;grind[aD]
  have on:=Me E O ak Q hm a1 r;refine b3 @Bj.eq_2 @GS.eq_1 (gy h.bX) ?_;refine dK hlen ?_;by_cases ap:aT=[]
  ·have hw:S.work=[]:=by
    have:=h.perm.length_eq;grind[aQ]
   subst ap;have ab:¬(0:Int)<((([]:List Int).length:Nat):Int):=aX;refine bN ?_;exact aD.2 ⟨rfl,S,[],dv,es,h,i,⟨λ_ _ h=>h,λ_ _ h=>h,λ_=>rfl⟩,hw,.refl _ _ _ _⟩
  ·have ab:(0:Int)<((aT.length:Nat):Int):=by grind[List.length_pos_iff]
   have i1:∀l i c,nW P 288 (.ptr l i c)=A (.iface 288 (.ptr l i c)):=λl i c=>aF
   refine bG ab i1 ?_;have bu:=h.S8;have bp:=h.lt;refine cK (Y_ h.w h.wn ad h.bX rfl rfl ad ap) ?_;rintro _ f ⟨bh,wk',wv',rfl,pm,q⟩;refine⟨q.next,?_⟩;have an:bh∈aQ S.work:=h.perm.mem_iff.1 (pm.mem_iff.1 aX);simp only[aQ,List.mem_map]at an;obtain⟨v,T,rfl⟩:=an;have d:v<V:=h.j4 v T;have a5:wk'.Perm (aQ (S.work.erase v)):=by
    have aH:=pm.trans h.perm;have aL:(aQ S.work).Perm ((v:Int)::aQ (S.work.erase v)):=(List.perm_cons_erase T).map _;exact(List.perm_cons _).1 (aH.trans aL)
   have aA:r8 P 3 I (.iface 3 (D F (v:Nat)))=A (D F (v:Nat)):=aF;have ai:=h.aJ ak q a5 (h.j5.erase v) (λu hu=>h.j4 u (List.mem_of_mem_erase hu)) (λu hu e hm=>h.wt u hu e (List.mem_of_mem_erase hm));have f2:=h.LW q;have be:=yf (b':=false) ai.cQ (ai.IP d);have br:=h.lw;have ax:=ai.RJ (v:=v) I (λu hu e=>by
    by_cases am:u=v
    ·subst am;exact h.j5.not_mem_erase
    ·rw[IM al,if_neg am]at e;exact ai.wt u hu e)
   have f3:=f2.trans (Fr.set (dv:=dj dv (2*V) wv') f (c:=5) ad (.row I 1 (c6 (S.waits.set v I))));have bm:({S with work:=S.work.erase v,waits:=S.waits.set v I}:bJ)=kF S v:=rfl;have z:cF n V a (kF S v) wk' (dj dv (2*V) wv') es (f.set (a+5) (.row I 1 (c6 (S.waits.set v I)))):=ax;have bd:S.s v|||p_ (S.a v) (S.s v)=S.s v|||S.a v:=aco (h.fb v) (by
    have a3:=h.ls;have:S.s v=S.a v&&&S.s v:=by
     apply Nat.eq_of_testBit_eq;intro j;rw[Nat.testBit_and];cases R:(S.s v).testBit j with
     |false=>simp
     |true=>rw[i.sle v j R];rfl
    rw[this];exact Nat.lt_of_le_of_lt Nat.and_le_left (h.fb v))
   have a7:S.s v<2^64:=by
    have:S.s v=S.a v&&&S.s v:=by
     apply Nat.eq_of_testBit_eq;intro j;rw[Nat.testBit_and];cases R:(S.s v).testBit j with
     |false=>simp
     |true=>rw[i.sle v j R];rfl
    rw[this];exact Nat.lt_of_le_of_lt Nat.and_le_left (h.fb v)
   have a3:=h.ls;have gs:(kF S v).seen[v]? =A (S.s v):=by
    grind[bJ.s]
   have bf:cr P (f.set (a+5) (.row I 1 (c6 (S.waits.set v I)))) 251 (.ptr (a+3) v 0) (D .u64 ((S.s v|||S.a v:Nat):Int))=A ((f.set (a+5) (.row I 1 (c6 (S.waits.set v I)))).set (a+3) (.row I 1 (g6 (S.seen.set v (S.s v|||S.a v))))):=by
    rw[e4 (n:=1) aF z.hk (yO gs) rfl rfl ad,<-JD];rfl
   have aM:cF n V a (mV (kF S v) v) wk' (dj dv (2*V) wv') es ((f.set (a+5) (.row I 1 (c6 (S.waits.set v I)))).set (a+3) (.row I 1 (g6 (S.seen.set v (S.s v|||S.a v))))):=z.agx v (S.s v|||S.a v);have f4:=f3.trans (Fr.set (dv:=dj dv (2*V) wv') _ (c:=3) ad (.row I 1 (g6 (S.seen.set v (S.s v|||S.a v)))));have a9:aI P (f.set (a+5) (.row I 1 (c6 (S.waits.set v I)))) 251 (.ptr a v 0)=A (D .u64 (S.a v:Nat)):=z.qQ d;have bb:aI P (f.set (a+5) (.row I 1 (c6 (S.waits.set v I)))) 251 (.ptr (a+3) v 0)=A (D .u64 (S.s v:Nat)):=z.aax d;simp-implicitDefEqProofs(disch:=try exact aW)only[reduceAdd,reduceLeDiff,reduceIte,bB,aA,gy ai.bX,gy z.bX,nj pn d,nj qU d,be,a9,bb,TX,FJ _ _ a7 (IB _ _),bd,bf]
   have bq:=aM.lt;refine e2 (Fa (IB (S.a v) (S.s v))) λx U G aq=> ?_
   have aV:=aM.aB aq;have f5:=f4.trans (Fr.aB aq);have aN:Go.a_.bits (p_ (S.a v) (S.s v))=k1 S v:=US _ _;rw[aN]at G;have aE:Own V a (dj dv (2*V) wv') U (aQ (k1 S v)) x:=by
    refine⟨⟨_,G⟩,λL e=> ?_⟩;have:=G.jn e;refine⟨this.2,ad,λo aZ aC=> ?_⟩;have:=(aM.jW aZ aC).2;omega
   have a8:∀t∈k1 S v,t<m:=by
    intro t ba;simp only[k1,List.mem_filter,Bool.and_eq_true]at ba;exact(i.sound v t ba.2.1).site E
   have bn:(k1 S v).length<=64:=Nat.le_trans (List.length_filter_le _ _) aX;have a4:bE P .empty .len [30] [x]=A (D F ((k1 S v).length:Nat)):=by
    have:=G.az.len b0 (H0:= .empty);grind[aQ]
   refine bP a4 ?_;have a6:(mV (kF S v) v).q v=S.q v:=rfl;refine JL (n:=n) (a:=a) (m:=m) d O Q a8 ad (k1 S v).length 0 N _ wk' _ es U ad ad aV aE (by rw[a6];exact Uo i E O v) al ?_;intro p bi o2 aR av k f6 ah;rw[List.drop_zero]at ah;have aO:p=ps n S v:=ah;have bo:=k.L_ v;have a2:bE P .empty .len [30] [o2 v]=A (D F ((p.g v).length:Nat)):=by
    have:=(k.g v d).az.len b0 (H0:= .empty);grind[aQ]
   refine c_ @Bi.eq_1 (gy k.bX) (h5 dP d) (k.aay d) a2 ?_;refine LL (bs:=p.g v) d Q (k.jT v) ad (p.g v).length 0 N p bi o2 aR av ad ad k rfl ?_;intro Y bj o3 aS aw aY f7 aj;rw[List.drop_zero,aO]at aj;have aP:Y=Dd n S v:=aj;obtain⟨i7,y,bc⟩:=i.step E T;rw[<-aP]at i7 y bc;refine(on Y bj o3 aS aw ad aY i7 (λu=>by rw[y.q];grind)).mono ?_;rintro bv bl ⟨rfl,ay,bk,Eo,aU,a0,i8,K,oK,f8⟩;exact⟨rfl,ay,bk,Eo,aU,a0,i8,⟨λu s e=>K.a u s (y.a u s e),λu b e=>K.g u b (y.g u b e),λu=>(K.q u).trans (y.q u)⟩,oK,((f5.trans f6).trans f7).trans f8⟩
def Y5(h:cF n V a S aT dv es H)(j:gg n m l)(d:V=n+m*8)(e:0<V)(f:V<=1000000)(hm:m<=60)(i:lu n m l S)(g:∀v,(S.q v).length<=1000000000):W (aK P aG 182 [.ptr (a+6) 0 0] H) λr H'=>r= .tuple []/\∃b wk' c es',cF n V a b wk' c es' H'/\lu n m l b/\rV S b/\b.work=[]/\Fr V a dv c H H':=by
 refine aen (S.M+V+66) ?_;refine bP @GR.eq_1 ?_;exact Me j d e f hm ad _ S aT dv es H ad h i g
