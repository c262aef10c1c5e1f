/-
  Texts of one proof, laid together: Fv17 Fv21 Fv22 Fv23 Fv24 Base Fv25 Pk.
-/
import Derived.Test.YtghmbpmaafnodaaGreatDoorMC
import Derived.Test.YtghmbpmaafnodaaGreatDoorProg
import Derived.KernelRfl
import Derived.Lib.Fields
import Derived.Lib.AtoiAll
import Derived.Lib.Bytealg
import Derived.Lib.Space
set_option linter.unusedVariables false
set_option linter.unusedSimpArgs false
namespace Go.f7
section
def nv(P:Program)(call:av)(ops:Array Oper):List Oper->ck->J->Option (ck×J)
 |[],R,H=>some (R,H)
 |o::os,R,H=>match nx P call ops o R H with
  |none=>none
  |some k=>match R.put o.dst k.val with
   |none=>none
   |some cj=>nv P call ops os cj (k.heap H)
def am5(o:Oper):Bool:=match cls o.op with
 | .write=>true
 | .call=>true
 |_=>false
def HR(m:Nat)(done:Nat):List Nat->List Nat
 |[]=>[]
 |j::A0=>if m.testBit j&& !done.testBit j then j::HR m done A0 else HR m done A0
def VP(done:Nat):List Nat->Nat
 |[]=>done
 |j::A0=>VP (done|||2^j) A0
def K_(ms all:List Nat):List (Nat×Oper)->Nat->List Nat
 |[],done=>HR (2^all.length-1) done all
 |(i,o)::is,done=>if am5 o&& !done.testBit i then
   (let A0:=HR (ms[i]?.getD 0) done all
    A0++i::K_ ms all is (VP done A0|||2^i))
  else K_ ms all is done
def T4:Nat->List Oper->List (Nat×Oper)
 |_,[]=>[]
 |i,o::os=>(i,o)::T4 (i+1) os
def order(ops:Array Oper):List Nat:=K_ (gV ops) (List.range ops.size) (T4 0 ops.toList) 0
def ki(P:Program)(call:av)(ops:Array Oper)(draw:Bool)(R:ck)(H:J):Option (ck×J):=
 match draw with
 |false=>nv P call ops ops.toList R H
 |true=>match canRun P call ops (order ops) R H with
  |none=>none
  |some (T,cj,H')=>match qU (gV ops) T [] with
   |false=>none
   |true=>match uh P (gV ops) (tied ops (gV ops) (order ops)) T H T with
    |false=>none
    |true=>some (cj,H')
def sA:Code->Bool
 | .region _ ops true=>B0 ops (gV ops) (order ops)
 | .seq a b=>sA a&&sA b
 | .cond _ a b=>sA a&&sA b
 | .block _ b=>sA b
 | .loop b=>sA b
 |_=>true
inductive bh where
 |normal
 |exit (id:Nat)
 |ret
def bh.LM:bh->Exit
 | .normal=> .normal
 | .exit id=> .exit id
 | .ret=> .ret
abbrev HC:=Array Oper->Bool->ck->J->Option (ck×J)
def iter(f:ck->J->Option (bh×ck×J)):Nat->ck->J->Option (bh×ck×J)
 |0,_,_=>none
 |n+1,R,H=>match f R H with
  |some (.normal,cj,H')=>iter f n cj H'
  |r=>r
def fc(nK:HC)(N:Nat):Code->ck->J->Option (bh×ck×J)
 | .skip,R,H=>some (.normal,R,H)
 | .region _ ops d,R,H=>match nK ops d R H with
  |some (cj,H')=>some (.normal,cj,H')
  |none=>none
 | .seq a b,R,H=>match fc nK N a R H with
  |some (.normal,cj,H')=>fc nK N b cj H'
  |r=>r
 | .cond c a b,R,H=>match ew R c with
  |some (.bool true)=>fc nK N a R H
  |some (.bool false)=>fc nK N b R H
  |_=>none
 | .block id b,R,H=>match fc nK N b R H with
  |some (.exit th,cj,H')=>if th=id then some (.normal,cj,H') else some (.exit th,cj,H')
  |r=>r
 | .loop b,R,H=>iter (λR H=>fc nK N b R H) N R H
 | .exit id,R,H=>some (.exit id,R,H)
 | .ret,R,H=>some (.ret,R,H)
 | .label _,R,H=>some (.normal,R,H)
 |_,_,_=>none
def ck.EK(t:dd I):Nat->List I->dd I
 |_,[]=>t
 |i,v::cm=>ck.EK (dd.put v (i+1) t i) (i+1) cm
def ck.enter(n:Nat)(args:List I):ck:=⟨ck.EK .leaf 0 args,args.length+(n-args.length)⟩
def Cd(P:Program)(R:ck)(H:J):ResultVar->Option I
 | .tmp t=>some (R.get t)
 | .cell a t=>am P H t (R.get a)
def ny(P:Program)(R:ck)(H:J):List ResultVar->Option (List I)
 |[]=>some []
 |r::rs=>match Cd P R H r,ny P R H rs with
  |some v,some cm=>some (v::cm)
  |_,_=>none
def xJ:List I->I
 |[v]=>v
 |cm=> .tuple cm
def ev(P:Program)(ao:av)(N:Nat):Nat->av
 |0,_,_,_=>none
 |n+1,f,args,H=>match ao f args H with
 |some r=>some r
 |none=>match P.funcs[f]? with
  |none=>none
  |some fn=>match fn.body with
   |none=>none
   |some c=>match fc (ki P (ev P ao N n)) N c (ck.enter fn.ntmps args) H with
    |none=>none
    |some (ex,R,H')=>match ex with
     | .exit _=>none
     |_=>match ny P R H' fn.results.toList with
      |none=>none
      |some cm=>some (xJ cm,H')
section
variable {E:Env}{P:Program}{ao:av}{call:av}{nK:HC}{N:Nat}
theorem J1{ops:Array Oper}: ∀{os:List Oper} {R cj:ck} {H H':J},nv P call ops os R H=some (cj,H')->H.next<=H'.next
 |[],R,cj,H,H',h=>by
  simp only[nv,bD,dz] at h;obtain⟨rfl,rfl⟩:=h;exact bL _
 |o::os,R,cj,H,H',h=>by
  simp only[nv] at h;split at h
  ·cases h
  ·rename_i k ah;split at h
   ·cases h
   ·exact Nat.le_trans (Ka ah) (J1 h)
def K0(nK:HC):Prop:= ∀ops d R H cj H',nK ops d R H=some (cj,H')->H.next<=H'.next
theorem PI:K0 (ki P call):=by
 intro ops d R H cj H' h;unfold ki at h;split at h
 ·exact J1 h
 ·split at h
  ·cases h
  ·rename_i T ir H1 aS;split at h
   ·cases h
   ·split at h
    ·cases h
    ·simp only[bD,dz] at h;obtain⟨rfl,rfl⟩:=h;rw[(tv aS).2.1];exact(DA aS).le
theorem Gv{f:ck->J->Option (bh×ck×J)}(ak: ∀R H ex cj H',f R H=some (ex,cj,H')->H.next<=H'.next): ∀{n:Nat} {R:ck} {H:J} {ex:bh} {cj:ck} {H':J},
  iter f n R H=some (ex,cj,H')->H.next<=H'.next
 |0,_,_,_,_,_,h=>by cases h
 |n+1,R,H,ex,cj,H',h=>by
  simp only[iter] at h;split at h
  ·rename_i ir H1 U;exact Nat.le_trans (ak _ _ _ _ _ U) (Gv ak h)
  ·exact ak _ _ _ _ _ h
theorem Pv(Mv:K0 nK): ∀(c:Code) {R:ck} {H:J} {ex:bh} {cj:ck} {H':J},fc nK N c R H=some (ex,cj,H')->H.next<=H'.next:=by
 intro c
 induction c with
 |skip=>intro R H ex cj H' h;simp only[fc,bD,dz] at h;obtain⟨_,_,rfl⟩:=h;exact bL _
 |region id ops d=>
  intro R H ex cj H' h;simp only[fc] at h;split at h
  ·rename_i ir H1 U;simp only[bD,dz] at h;obtain⟨_,_,rfl⟩:=h;exact Mv _ _ _ _ _ _ U
  ·cases h
 |seq a b jb j6=>
  intro R H ex cj H' h;simp only[fc] at h;split at h
  ·rename_i ir H1 U;exact Nat.le_trans (jb U) (j6 h)
  ·exact jb h
 |cond c a b jb j6=>
  intro R H ex cj H' h;simp only[fc] at h;split at h
  ·exact jb h
  ·exact j6 h
  ·cases h
 |block id b aT=>
  intro R H ex cj H' h;simp only[fc] at h;split at h
  ·rename_i th ir H1 U;have:=aT U;split at h<;>(simp only[bD,dz] at h;obtain⟨_,_,rfl⟩:=h;exact this)
  ·exact aT h
 |loop b aT=>
  intro R H ex cj H' h;simp only[fc] at h;exact Gv (λ_ _ _ _ _ h=>aT h) h
 |exit id=>intro R H ex cj H' h;simp only[fc,bD,dz] at h;obtain⟨_,_,rfl⟩:=h;exact bL _
 |ret=>intro R H ex cj H' h;simp only[fc,bD,dz] at h;obtain⟨_,_,rfl⟩:=h;exact bL _
 |label l=>intro R H ex cj H' h;simp only[fc,bD,dz] at h;obtain⟨_,_,rfl⟩:=h;exact bL _
 |goto l=>intro R H ex cj H' h;cases h
 |scope b aT=>intro R H ex cj H' h;cases h
 |rangeFunc f et a b jb j6=>intro R H ex cj H' h;cases h
 |refuse y=>intro R H ex cj H' h;cases h
theorem Pk(o1:rB E P call){ops:Array Oper}{Q:Exit->Act->World->Prop}: ∀{os:List Oper} {R cj:ck} {H H':J} {ρ:Env} {w:World} {a:Act},nv P call ops os R H=some (cj,H')->
  Rel ρ H w->ov E ρ H.next H'.next->hp ρ R a->(∀cX er b5,hp cX cj er->Step ρ H w cX H' b5->Q .normal er b5)->wpList P ops Q os a w
 |[],R,cj,H,H',ρ,w,a,h,ce,_,a7,eH=>by
  simp only[nv,bD,dz] at h;obtain⟨rfl,rfl⟩:=h;exact eH ρ a w a7 (.refl ce)
 |o::os,R,cj,H,H',ρ,w,a,h,ce,ak,a7,eH=>by
  simp only[nv] at h;split at h
  ·cases h
  ·rename_i k ah;split at h
   ·cases h
   ·rename_i ir Na;have j1:=J1 h;have arD:=Ka ah;have go: ∀x b5 cX,cT cX k.val x->Step ρ H w cX (k.heap H) b5->wpList P ops Q os (a.put o.dst x) b5:=λx b5 cX af aO=>
     Pk o1 h aO.rel (ak.after aO) ((a7.mono aO.le).put Na af) λAT a2 fT U aa=>eH AT a2 fT U (aO.trans aa)
    unfold wpList;rw[OW a7 o];rcases BG ah with⟨hw,jq⟩|⟨hw,rfl⟩
    ·rw[hw];simp only[if_true];refine .inl ?_;cases k with
     |skip=>exact jq.elim
     |pure v=>exact TP jq a7 λx af=>go x w ρ af (.refl ce)
     |read v=>exact TT ce jq a7 λx af=>go x w ρ af (.refl ce)
     |new v b=>
      have jp:ρ H.next=none:=ak.new _ (bL _) (by simp only[K.heap,J.b6] at j1;omega)
      refine VF jq a7 jp λx b5 cX loc cE cx eM eB eN gC ng A6 so wt N0 N1=>go x b5 cX cE ?_
      have m0:jB ρ H w (H.next+1) (λ_=>none) ρ H w:=jB.start ce λl U aa=>by
       have:l=H.next:=Z
       rw[this];exact jp
      have m1:=m0.early (bL _) Z rfl cx eM eB eN gC ng A6 so wt N0 N1;exact(m1.X2 (b:=b) (by simp)).done rfl
     |gX v bl=>
      exact Ue o1 ce (ak.left j1) jq a7 λx b5 cX U aa=>go x b5 cX U aa
    ·rw[hw];simp only[Bool.false_eq_true,if_false];exact go undef w ρ (.tuple [] [] .nil) (.refl ce)
def V0(E:Env)(P:Program)(nK:HC):Prop:= ∀(id:Nat) (ops:Array Oper) (d:Bool) (R:ck) (H:J) (cj:ck) (H':J),nK ops d R H=some (cj,H')->(d=true->B0 ops (gV ops) (order ops)=true)->
 ∀(ρ:Env) (w:World) (a:Act) (Q:Exit->Act->World->Prop),Rel ρ H w->ov E ρ H.next H'.next->hp ρ R a->(∀cX er b5,hp cX cj er->Step ρ H w cX H' b5->Q .normal er b5)->(Code.region id ops d).wp P Q a w
theorem Ph(hm:P.follows .mixedOrders=true)(o1:rB E P call):V0 E P (ki P call):=by
 intro id ops d R H cj H' h bb ρ w a Q ce ak a7 eH;unfold ki at h;split at h
 ·exact wp_region_list (Pk o1 h ce ak a7 eH)
 ·split at h
  ·cases h
  ·rename_i T ir H1 aS;split at h
   ·cases h
   ·rename_i HI;split at h
    ·cases h
    ·rename_i HN;simp only[bD,dz] at h;obtain⟨rfl,rfl⟩:=h;exact agr hm o1 ⟨aS,bb rfl,HI,HN⟩ ce ak a7 eH
theorem aa3{c:Code}{Q:Exit->Act->World->Prop}(Jc:Nat->Act->World->Prop)(round: ∀n a w,Jc n a w-> ∃m,n=m+1/\c.wp P (Exit.then (Jc m) Q) a w){n:Nat}{a:Act}{w:World}(an5:Jc n a w):(Code.loop c).wp P Q a w:=by
 intro b k cs;have key: ∀n a w,Jc n a w-> ∃e er b5,Q e er b5/\Arrives P (lone (b.at a (.code c:: .inLoop c::k)) cs w) b k cs e er b5:=by
  intro n
  induction n with
  |zero=>intro a w h;obtain⟨m,hm,_⟩:=round 0 a w h;omega
  |succ n aT=>
   intro a w h;obtain⟨m,hm,hw⟩:=round _ a w h;obtain rfl:m=n:=Z;obtain⟨e,Cr,sZ,bg,xL⟩:=hw b (.inLoop c::k) cs;cases e with
   |normal=>
    obtain⟨anc,am9,H8,ali,agQ⟩:=aT Cr sZ bg;exact⟨anc,am9,H8,ali,.of_steps (Steps.trans xL (.one step_inLoop)) agQ⟩
   |exit id=>exact⟨_,Cr,sZ,bg,.pass (x:= .inLoop c) rfl (λ_ _=> .inl (by simp)) xL⟩
   |goto l=>exact⟨_,Cr,sZ,bg,.pass (x:= .inLoop c) rfl (λ_ _=> .inl (by simp)) xL⟩
   |ret=>exact⟨_,Cr,sZ,bg,.pass (x:= .inLoop c) rfl (λ_ _=> .inl (by simp)) xL⟩
   |panic ase=>exact⟨_,Cr,sZ,bg,.pass (x:= .inLoop c) rfl (λ_ _=> .inl (by simp)) xL⟩
   |outgrown=>exact⟨_,Cr,sZ,bg,.pass (x:= .inLoop c) rfl (λ_ _=> .inl (by simp)) xL⟩
 obtain⟨e,er,b5,bg,xL⟩:=key _ a w an5;exact⟨e,er,b5,bg,.of_steps (.one step_loop) xL⟩
def Lk(E:Env)(P:Program)(c:Code)(f:ck->J->Option (bh×ck×J)):Prop:= ∀(R:ck) (H:J) (ex:bh) (cj:ck) (H':J),f R H=some (ex,cj,H')->
 ∀(ρ:Env) (w:World) (a:Act) (Q:Exit->Act->World->Prop),Rel ρ H w->ov E ρ H.next H'.next->hp ρ R a->(∀cX er b5,hp cX cj er->Step ρ H w cX H' b5->Q ex.LM er b5)->c.wp P Q a w
theorem acb{c:Code}{f:ck->J->Option (bh×ck×J)}(ak:Lk E P c f)(j1: ∀R H ex cj H',f R H=some (ex,cj,H')->H.next<=H'.next)(n:Nat):Lk E P (.loop c) (iter f n):=by
 intro R H ex cj H' h ρ w a Q ce CU a7 eH;refine aa3 (n:=n) (λn bd e8=> ∃ir H1 ps,iter f n ir H1=some (ex,cj,H')/\Step ρ H w ps H1 e8/\hp ps ir bd) ?_ ⟨R,H,ρ,h,.refl ce,a7⟩;rintro n bd e8 ⟨ir,H1,ps,U,aO,mU⟩;cases n with
 |zero=>cases U
 |succ n=>
  refine⟨n,rfl,?_⟩;have hle:=Gv j1 U;simp only[iter] at U;split at U
  ·rename_i aqh bl aa;have anK:=Gv j1 U;refine ak _ _ _ _ _ aa ps e8 bd _ aO.rel (ov.left (ov.after CU aO) anK) mU λAT a2 fT g1 g2=> ?_
   exact⟨aqh,bl,AT,U,aO.trans g2,g1⟩
  ·rename_i dK;refine ak _ _ _ _ _ U ps e8 bd _ aO.rel (ov.after CU aO) mU λAT a2 fT g1 g2=> ?_
   have:=eH AT a2 fT g1 (aO.trans g2);cases ex with
   |normal=>exact absurd U (dK _ _)
   |exit id=>exact this
   |ret=>exact this
theorem Pd(j1:K0 nK)(Mv:V0 E P nK): ∀(c:Code),sA c=true->Lk E P c (fc nK N c):=by
 intro c
 induction c with
 |skip=>
  intro _ R H ex cj H' h ρ w a Q ce ak a7 eH;simp only[fc,bD,dz] at h;obtain⟨rfl,rfl,rfl⟩:=h;exact wp_skip (eH ρ a w a7 (.refl ce))
 |region id ops d=>
  intro bA R H ex cj H' h ρ w a Q ce ak a7 eH;simp only[fc] at h;split at h
  ·rename_i ir H1 U;simp only[bD,dz] at h;obtain⟨rfl,rfl,rfl⟩:=h;exact Mv id ops d R H _ _ U (λbb=>by subst bb;exact bA) ρ w a Q ce ak a7 eH
  ·cases h
 |seq x y jb j6=>
  intro bA R H ex cj H' h ρ w a Q ce ak a7 eH;simp only[sA,Bool.and_eq_true] at bA;simp only[fc] at h;refine wp_seq ?_;split at h
  ·rename_i ir H1 U;have hle:=Pv j1 y h;refine jb bA.1 _ _ _ _ _ U ρ w a _ ce (ak.left hle) a7 λps bd e8 g1 g2=> ?_
   exact j6 bA.2 _ _ _ _ _ h ps e8 bd Q g2.rel (ak.after g2) g1 λAT a2 fT g3 g4=>eH AT a2 fT g3 (g2.trans g4)
  ·rename_i dK;refine jb bA.1 _ _ _ _ _ h ρ w a _ ce ak a7 λps bd e8 g1 g2=> ?_
   have:=eH ps bd e8 g1 g2;cases ex with
   |normal=>exact absurd h (dK _ _)
   |exit id=>exact this
   |ret=>exact this
 |cond c x y jb j6=>
  intro bA R H ex cj H' h ρ w a Q ce ak a7 eH;simp only[sA,Bool.and_eq_true] at bA;simp only[fc] at h;split at h
  ·rename_i aS;have U:=gO a7 aS;refine wp_cond_true (by generalize a.eval c=z at U;cases U;rfl) ?_;exact jb bA.1 _ _ _ _ _ h ρ w a Q ce ak a7 eH
  ·rename_i aS;have U:=gO a7 aS;refine wp_cond_false (by generalize a.eval c=z at U;cases U;rfl) ?_;exact j6 bA.2 _ _ _ _ _ h ρ w a Q ce ak a7 eH
  ·cases h
 |block id b aT=>
  intro bA R H ex cj H' h ρ w a Q ce ak a7 eH;simp only[fc] at h;refine wp_block ?_;split at h
  ·rename_i th ir H1 U;split at h
   ·rename_i hid;simp only[bD,dz] at h;obtain⟨rfl,rfl,rfl⟩:=h;refine aT bA _ _ _ _ _ U ρ w a _ ce ak a7 λps bd e8 g1 g2=> ?_
    have:=eH ps bd e8 g1 g2;simp only[bh.LM,Exit.inBlock,hid,if_true];exact this
   ·rename_i hid;simp only[bD,dz] at h;obtain⟨rfl,rfl,rfl⟩:=h;refine aT bA _ _ _ _ _ U ρ w a _ ce ak a7 λps bd e8 g1 g2=> ?_
    have:=eH ps bd e8 g1 g2;simp only[bh.LM,Exit.inBlock,hid,if_false];exact this
  ·rename_i dK;refine aT bA _ _ _ _ _ h ρ w a _ ce ak a7 λps bd e8 g1 g2=> ?_
   have:=eH ps bd e8 g1 g2;cases ex with
   |normal=>exact this
   |exit th=>exact absurd h (dK _ _ _)
   |ret=>exact this
 |loop b aT=>
  intro bA R H ex cj H' h ρ w a Q ce ak a7 eH;simp only[fc] at h;exact acb (aT bA) (λ_ _ _ _ _ h=>Pv j1 b h) N R H ex cj H' h ρ w a Q ce ak a7 eH
 |exit id=>
  intro _ R H ex cj H' h ρ w a Q ce ak a7 eH;simp only[fc,bD,dz] at h;obtain⟨rfl,rfl,rfl⟩:=h;exact wp_exit (eH ρ a w a7 (.refl ce))
 |ret=>
  intro _ R H ex cj H' h ρ w a Q ce ak a7 eH;simp only[fc,bD,dz] at h;obtain⟨rfl,rfl,rfl⟩:=h;exact wp_ret (eH ρ a w a7 (.refl ce))
 |label l=>
  intro _ R H ex cj H' h ρ w a Q ce ak a7 eH;simp only[fc,bD,dz] at h;obtain⟨rfl,rfl,rfl⟩:=h;exact wp_label (eH ρ a w a7 (.refl ce))
 |goto l=>intro _ R H ex cj H' h;cases h
 |scope b aT=>intro _ R H ex cj H' h;cases h
 |rangeFunc f et a b jb j6=>intro _ R H ex cj H' h;cases h
 |refuse y=>intro _ R H ex cj H' h;cases h
theorem KK: ∀(args:List I) (t:dd I) (i d:Nat),(ck.EK t i args).get d=if i<=d/\d<i+args.length then args[d-i]? else t.get d
 |[],t,i,d=>by simp only[ck.EK,List.length_nil];rw[if_neg Z]
 |v::cm,t,i,d=>by
  simp only[ck.EK];rw[KK cm];by_cases U:i+1<=d/\d<i+1+cm.length
  ·rw[if_pos U,if_pos (by simp;omega),show d-i=(d-(i+1))+1 by omega];simp
  ·rw[if_neg U];by_cases aa:d=i
   ·subst aa;rw[dd.Ds _ _ _ _ Z,if_pos (by simp)];simp
   ·rw[dd.Dp _ _ _ _ _ (Ne.symm aa),if_neg (by simp;omega)]
theorem QQ{ρ:Env}{args:List I}{xs:List Value}(h:dG ρ args xs)(n:Nat):hp ρ (ck.enter n args) {tmps:=xs.toArray++Array.replicate (n-xs.toArray.size) undef,defers:=[]}:=by
 have ax:=h.length;refine⟨by simp[ck.enter,ax],λd=> ?_,rfl⟩;unfold ck.get ck.enter;simp only
 rw[KK];rw[Array.getD_eq_getD_getElem?];by_cases bb:d<args.length
 ·rw[if_pos Z];obtain⟨v,bw⟩: ∃v,args[d]? =some v:=⟨args[d],by simp[bb]⟩;obtain⟨x,af,jr⟩:=h.get d v bw;have U:(xs.toArray++Array.replicate (n-xs.toArray.size) undef)[d]? =some x:=by
   rw[Array.getElem?_append_left (by simp;omega)];simpa using af
  rw[U];simp only[Nat.sub_zero,bw,Option.getD_some];exact jr
 ·rw[if_neg Z];have U:((xs.toArray++Array.replicate (n-xs.toArray.size) undef)[d]?).getD undef=undef:=by
   rw[Array.getElem?_append_right (by simp;omega)];simp only[Array.getElem?_replicate];split<;>rfl
  rw[U,dd.DQ];exact .tuple [] [] .nil
def Ec(tmps:Array Value):ResultVar->Sem Value
 | .tmp t=>pure (tmps.getD t undef)
 | .cell b t=>do loadVar t (<-asAddr (tmps.getD b undef))
theorem abc{ρ:Env}{H:J}{w:World}{R:ck}{a:Act}(ce:Rel ρ H w)(a7:hp ρ R a){r:ResultVar}{v:I}(h:Cd P R H r=some v):
  ∃x,(Ec a.tmps r).run P w= .ok x w/\cT ρ v x:=by
 cases r with
 |tmp t=>
  simp only[Cd,bD] at h;subst h;exact⟨_,rfl,a7.get t⟩
 |cell b t=>
  simp only[Cd] at h;obtain⟨x,aI,bc⟩:=Pn ce h (a7.get b);refine⟨x,?_,bc⟩;have aa:=a7.get b;simp only[Ec];generalize a.tmps.getD b undef=z at aa aI ⊢;have bA: ∃l i c,R.get b= .ptr l i c:=by
   generalize R.get b=u at h;unfold am at h;cases u<;>first|exact⟨_,_,_,rfl⟩|(exfalso;simp at h)
  obtain⟨l,i,c,bA⟩:=bA;rw[bA] at aa;cases aa;simpa [Instr.loadAt,Instr.sureAddr,asAddr] using aI
theorem P0{ρ:Env}{H:J}{w:World}{R:ck}{a:Act}(ce:Rel ρ H w)(a7:hp ρ R a): ∀{rs:List ResultVar} {cm:List I},ny P R H rs=some cm->
  ∃xs:List Value,(rs.mapM (Ec a.tmps)).run P w= .ok xs w/\dG ρ cm xs
 |[],cm,h=>by simp only[ny,bD] at h;subst h;exact⟨[],by simp[Sem.run_pure],.nil⟩
 |r::rs,cm,h=>by
  simp only[ny] at h;split at h
  ·rename_i v FR bw tf;simp only[bD] at h;subst h;obtain⟨x,aI,bc⟩:=abc ce a7 bw;obtain⟨xs,dm,eS⟩:=P0 ce a7 tf;refine⟨x::xs,?_,.cons _ _ _ _ bc eS⟩;rw[List.mapM_cons];simp only[Sem.run_bind,Result.andThen_ok,Sem.run_pure,aI,dm]
  ·cases h
theorem acs(fn:Func)(tmps:Array Value):results fn tmps=(do
  let cm<-fn.results.mapM (Ec tmps)
  pure (if h:cm.size=1 then cm[0] else .tuple cm)):=by
 unfold results
 congr 1
theorem O5{ρ:Env}{H:J}{w:World}{R:ck}{a:Act}(ce:Rel ρ H w)(a7:hp ρ R a){fn:Func}{cm:List I}(h:ny P R H fn.results.toList=some cm):
  ∃x,(results fn a.tmps).run P w= .ok x w/\cT ρ (xJ cm) x:=by
 obtain⟨xs,aI,bc⟩:=P0 ce a7 h;have hm:(fn.results.mapM (Ec a.tmps)).run P w= .ok xs.toArray w:=by
  rw[Array.mapM_eq_mapM_toList];simp only[Sem.run_map,aI,Result.andThen_ok]
 refine⟨if h:xs.toArray.size=1 then xs.toArray[0] else .tuple xs.toArray,?_,?_⟩
 ·rw[acs];simp only[Sem.run_bind,hm,Result.andThen_ok,Sem.run_pure]
 ·cases bc with
  |nil=>exact .tuple [] [] .nil
  |cons v x FR uS U aa=>
   cases aa with
   |nil=>exact U
   |cons dr el arj arl ae al=>
    simp only[xJ];rw[dif_neg (by simp)];exact .tuple _ _ (.cons _ _ _ _ U (.cons _ _ _ _ ae al))
structure y_(P:Program):Prop where
 mixed:P.follows .mixedOrders=true
 names: ∀fn∈P.funcs,(fn.name== "runtime.NumGoroutine")=false
 WA: ∀(f:Nat) (fn:Func) (c:Code),P.funcs[f]? =some fn->fn.body=some c->sA c=true
theorem Wb(px:y_ P)(tq:rB E P ao): ∀n,rB E P (ev P ao N n)
 |0=>λg args H v H' h=>by cases h
 |n+1=>by
  intro g args H v H' h ρ w xs ce ak o0 aV next rO
  simp only[ev] at h;split at h
  ·rename_i r a7;cases h;exact tq g args H v H' a7 ρ w xs ce ak o0 aV next rO
  split at h
  ·cases h
  ·rename_i fn jp;split at h
   ·cases h
   ·rename_i c aS;split at h
    ·cases h
    ·rename_i ex R H1 ph;have AC:=Wb px tq n;have LQ:=Pd (N:=N) PI (Ph px.mixed AC) c (px.WA _ _ _ jp aS);have zE:(fn.name== "runtime.NumGoroutine")=false:=px.names fn (Array.mem_of_getElem? jp);have oD:(callFunc g xs.toArray).run P w= .ok (.enter g xs.toArray) w:=by
      unfold callFunc;simp[jp,aS];intro bW;simp[bW] at zE
     unfold zN;rw[oD];simp only
     split at h
     ·cases h
     ·rename_i dK;split at h
      ·cases h
      ·rename_i cm tf;simp only[bD,dz] at h;obtain⟨rfl,rfl⟩:=h;refine calls_of_wp jp aS (LQ _ _ _ _ _ ph ρ w _ _ ce ak (QQ o0 fn.ntmps) λcX er b5 U aa=> ?_);obtain⟨x,aI,bc⟩:=O5 aa.rel U tf;have s9:=rO x b5 cX bc aa;cases ex with
       |normal=>exact⟨U.none,x,aI,s9⟩
       |ret=>exact⟨U.none,x,aI,s9⟩
       |exit id=>exact absurd rfl (dK id)
end
end
section
section
variable {E:Env}{P:Program}{ao:av}
def Aj(P:Program)(ao:av)(f:Nat)(args:List I)(H:J)(r:I×J):Prop:= ∃k,∀N,k<=N-> ∀n,k<=n->ev P ao N n f args H=some r
theorem Aj.uniq{f:Nat}{args:List I}{H:J}{r s:I×J}(h:Aj P ao f args H r)(bZ:Aj P ao f args H s):r=s:=by
 obtain⟨k,ah⟩:=h;obtain⟨j,bP⟩:=bZ;have U:=ah (max k j) (Nat.le_max_left ..) (max k j) (Nat.le_max_left ..);rw[bP (max k j) (Nat.le_max_right ..) (max k j) (Nat.le_max_right ..)] at U;exact(Option.some.inj U).symm
open Classical in
noncomputable def au(P:Program)(ao:av):av:=λf args H=>if h: ∃r,Aj P ao f args H r then some h.choose else none
theorem SR{f:Nat}{args:List I}{H:J}{r:I×J}(h:au P ao f args H=some r):Aj P ao f args H r:=by
 unfold au at h;split at h
 ·rename_i af;rw[<-Option.some.inj h];exact af.choose_spec
 ·cases h
theorem TF{f:Nat}{args:List I}{H:J}{r:I×J}(h:Aj P ao f args H r):au P ao f args H=some r:=by
 unfold au;have af: ∃r,Aj P ao f args H r:=⟨r,h⟩;rw[dif_pos af];exact congrArg some (af.choose_spec.uniq h)
theorem aio(px:y_ P)(tq:rB E P ao):rB E P (au P ao):=by
 intro g args H v H' h;obtain⟨k,ah⟩:=SR h;exact Wb px tq k g args H v H' (ah k (bL _) k (bL _))
theorem adk{o:Op}{R:ck}{H:J}{x:K}(h:step1 P (au P ao) o R H=some x): ∃k,∀N,k<=N-> ∀n,k<=n->step1 P (ev P ao N n) o R H=some x:=by
 unfold step1 at h;unfold step1;split at h
 ·exact⟨0,λ_ _ _ _=>h⟩
 ·exact⟨0,λ_ _ _ _=>h⟩
 ·exact⟨0,λ_ _ _ _=>h⟩
 ·exact⟨0,λ_ _ _ _=>h⟩
 ·exact⟨0,λ_ _ _ _=>h⟩
 ·split at h
  ·split at h
   ·rename_i g cm aS;cases o1:au P ao g cm H with
    |none=>rw[o1] at h;cases h
    |some r=>
     obtain⟨k,ah⟩:=SR o1;refine⟨k,λN dX n aV=> ?_⟩;rw[o1] at h;simp only[aS,ah N dX n aV];exact h
   ·cases h
  ·cases h
theorem Qi{ops:Array Oper}{o:Oper}{R:ck}{H:J}{x:K}(h:nx P (au P ao) ops o R H=some x): ∃k,∀N,k<=N-> ∀n,k<=n->nx P (ev P ao N n) ops o R H=some x:=by
 unfold nx at h;unfold nx;split at h
 ·rename_i hw;obtain⟨k,ah⟩:=adk h;exact⟨k,λN dX n aV=>ah N dX n aV⟩
 ·exact⟨0,λ_ _ _ _=>h⟩
theorem PN{ops:Array Oper}: ∀{os:List Oper} {R:ck} {H:J} {x:ck×J},nv P (au P ao) ops os R H=some x-> ∃k,∀N,k<=N-> ∀n,k<=n->nv P (ev P ao N n) ops os R H=some x
 |[],R,H,x,h=>⟨0,λ_ _ _ _=>h⟩
 |o::os,R,H,x,h=>by
  simp only[nv] at h;split at h
  ·cases h
  ·rename_i y cR;split at h
   ·cases h
   ·rename_i cj ln;obtain⟨k,ah⟩:=Qi cR;obtain⟨j,bP⟩:=PN h;refine⟨max k j,λN dX n aV=> ?_⟩;simp only[nv,ah N Z n Z,ln,bP N Z n Z]
theorem Pu{ops:Array Oper}: ∀{is:List Nat} {R:ck} {H:J} {x:List dM×ck×J},canRun P (au P ao) ops is R H=some x-> ∃k,∀N,k<=N-> ∀n,k<=n->canRun P (ev P ao N n) ops is R H=some x
 |[],R,H,x,h=>⟨0,λ_ _ _ _=>h⟩
 |i::is,R,H,x,h=>by
  simp only[canRun] at h;split at h
  ·cases h
  ·rename_i o bs;split at h
   ·cases h
   ·rename_i y cR;split at h
    ·cases h
    ·rename_i cj ln;split at h
     ·cases h
     ·rename_i T fb dU aS;obtain⟨k,ah⟩:=Qi cR;obtain⟨j,bP⟩:=Pu aS;refine⟨max k j,λN dX n aV=> ?_⟩;simp only[canRun,bs,ah N Z n Z,ln,bP N Z n Z];exact h
theorem abB{ops:Array Oper}{d:Bool}{R:ck}{H:J}{x:ck×J}(h:ki P (au P ao) ops d R H=some x): ∃k,∀N,k<=N-> ∀n,k<=n->ki P (ev P ao N n) ops d R H=some x:=by
 unfold ki at h;unfold ki;split at h
 ·obtain⟨k,ah⟩:=PN h;exact⟨k,λN dX n aV=>ah N dX n aV⟩
 ·split at h
  ·cases h
  ·rename_i T cj H' aS;obtain⟨k,ah⟩:=Pu aS;refine⟨k,λN dX n aV=> ?_⟩;simp only[ah N dX n aV];exact h
theorem Q1{f:ck->J->Option (bh×ck×J)}: ∀{n m:Nat} {R:ck} {H:J} {x:bh×ck×J},iter f n R H=some x->n<=m->iter f m R H=some x
 |0,_,_,_,_,h,_=>by cases h
 |n+1,0,_,_,_,_,hm=>Z
 |n+1,m+1,R,H,x,h,hm=>by
  simp only[iter] at h ⊢;split at h
  ·rename_i cj H' he;exact Q1 h Z
  ·exact h
theorem Q0{f:ck->J->Option (bh×ck×J)}{g:Nat->Nat->ck->J->Option (bh×ck×J)}(ak: ∀R H x,f R H=some x-> ∃k,∀N,k<=N-> ∀n,k<=n->g N n R H=some x):
  ∀{M:Nat} {R:ck} {H:J} {x:bh×ck×J},iter f M R H=some x-> ∃k,∀N,k<=N-> ∀n,k<=n->iter (g N n) M R H=some x
 |0,_,_,_,h=>by cases h
 |M+1,R,H,x,h=>by
  simp only[iter] at h;split at h
  ·rename_i cj H' he;obtain⟨k,ah⟩:=ak _ _ _ he;obtain⟨j,bP⟩:=Q0 ak h;refine⟨max k j,λN dX n aV=> ?_⟩;simp only[iter,ah N Z n Z];exact bP N Z n Z
  ·rename_i dK;obtain⟨k,ah⟩:=ak _ _ _ h;refine⟨k,λN dX n aV=> ?_⟩;simp only[iter,ah N dX n aV];split
   ·rename_i cj H' he;cases he;exact absurd h (dK _ _)
   ·rfl
theorem abg{M:Nat}: ∀(c:Code) {R:ck} {H:J} {x:bh×ck×J},fc (ki P (au P ao)) M c R H=some x-> ∃k,∀N,k<=N-> ∀n,k<=n->fc (ki P (ev P ao N n)) N c R H=some x:=by
 intro c
 induction c with
 |skip=>intro R H x h;exact⟨0,λ_ _ _ _=>h⟩
 |region id ops d=>
  intro R H x h;simp only[fc] at h;split at h
  ·rename_i ir H1 U;obtain⟨k,ah⟩:=abB U;refine⟨k,λN dX n aV=> ?_⟩;simp only[fc,ah N dX n aV];exact h
  ·cases h
 |seq a b jb j6=>
  intro R H x h;simp only[fc] at h;split at h
  ·rename_i ir H1 U;obtain⟨k,ah⟩:=jb U;obtain⟨j,bP⟩:=j6 h;refine⟨max k j,λN dX n aV=> ?_⟩;simp only[fc,ah N Z n Z,bP N Z n Z]
  ·rename_i dK;obtain⟨k,ah⟩:=jb h;refine⟨k,λN dX n aV=> ?_⟩;simp only[fc,ah N dX n aV];split
   ·rename_i cj H' he;cases he;exact absurd h (dK _ _)
   ·rfl
 |cond c a b jb j6=>
  intro R H x h;simp only[fc] at h;split at h
  ·rename_i aS;obtain⟨k,ah⟩:=jb h;refine⟨k,λN dX n aV=> ?_⟩;simp only[fc,aS,ah N dX n aV]
  ·rename_i aS;obtain⟨k,ah⟩:=j6 h;refine⟨k,λN dX n aV=> ?_⟩;simp only[fc,aS,ah N dX n aV]
  ·cases h
 |block id b aT=>
  intro R H x h;simp only[fc] at h;split at h
  ·rename_i th ir H1 U;obtain⟨k,ah⟩:=aT U;refine⟨k,λN dX n aV=> ?_⟩;simp only[fc,ah N dX n aV];exact h
  ·rename_i dK;obtain⟨k,ah⟩:=aT h;refine⟨k,λN dX n aV=> ?_⟩;simp only[fc,ah N dX n aV];split
   ·rename_i th cj H' he;cases he;exact absurd h (dK _ _ _)
   ·rfl
 |loop b aT=>
  intro R H x h;simp only[fc] at h;obtain⟨k,ah⟩:=Q0 (g:=λN n=>fc (ki P (ev P ao N n)) N b) (λR H x af=>aT af) h;refine⟨max k M,λN dX n aV=> ?_⟩;simp only[fc];exact Q1 (ah N Z n Z) Z
 |exit id=>intro R H x h;exact⟨0,λ_ _ _ _=>h⟩
 |ret=>intro R H x h;exact⟨0,λ_ _ _ _=>h⟩
 |label l=>intro R H x h;exact⟨0,λ_ _ _ _=>h⟩
 |goto l=>intro R H x h;cases h
 |scope b aT=>intro R H x h;cases h
 |rangeFunc f et a b jb j6=>intro R H x h;cases h
 |refuse y=>intro R H x h;cases h
theorem QR{f:Nat}{args:List I}{H H':J}{fn:Func}{c:Code}{M:Nat}{ex:bh}{R:ck}{cm:List I}(tq:ao f args H=none)(ak:P.funcs[f]? =some fn)(ay:fn.body=some c)
  (h:fc (ki P (au P ao)) M c (ck.enter fn.ntmps args) H=some (ex,R,H')) (hex: ∀id,ex≠ .exit id) (a7:ny P R H' fn.results.toList=some cm):au P ao f args H=some (xJ cm,H'):=by
 obtain⟨k,ah⟩:=abg c h;refine TF ⟨k+1,λN dX n aV=> ?_⟩;cases n with
 |zero=>omega
 |succ n=>
  simp only[ev,tq,ak,ay,ah N Z n Z];cases ex with
  |exit id=>exact absurd rfl (hex id)
  |normal=>simp only[a7]
  |ret=>simp only[a7]
theorem GS{f:Nat}{args:List I}{H:J}{r:I×J}(h:ao f args H=some r):au P ao f args H=some r:=by
 refine TF ⟨1,λN dX n aV=> ?_⟩;cases n with
 |zero=>omega
 |succ n=>simp only[ev,h]
end
end
section
abbrev O:=Option (I×J)
abbrev fb:=Nat->I
def iF(R:fb)(dst:Option Nat)(v:I):fb:=match dst with
 |none=>R
 |some d=>λe=>bif Nat.beq e d then v else R e
def gM(R:fb):Operand->Option I
 | .tmp t=>some (R t)
 | .const v=>Eo v
 | .global _=>none
 | .func f=>some (.func (.func f) [] [])
def xv(R:fb):List Operand->Option (List I)
 |[]=>some []
 |x::xs=>(gM R x).bind λv=>(xv R xs).bind λcm=>some (v::cm)
def D9(R:fb):List (Nat×Operand)->Option (List (Nat×I))
 |[]=>some []
 |(i,x)::xs=>(gM R x).bind λv=>(D9 R xs).bind λcm=>some ((i,v)::cm)
def Ei(R:fb):Option Operand->Option (Option I)
 |none=>some none
 |some x=>(gM R x).bind λv=>some (some v)
def cW(c:I)(a b:Option I):Option I:=match c with
 | .bool t=>bif t then a else b
 |_=>none
def HE(P:Program)(t:TypeId)(c:Bool)(a b:I):Bool:=
 match a,b with
 | .nilIface,.nilIface=>c
 | .agg _,.agg _=> !P.eqGuardType P.depth t
 |_,_=>true
def aZ(P:Program)(op:BinOp)(t:TypeId)(c:Bool)(x y:I):Option I:=
 match x,y with
 | .int k a,.int fA b=>
  (match op with
  | .shl=>BF .shl k a b
  | .shr=>BF .shr k a b
  |op=>if k=fA then pQ op k a b else none)
 | .str a,.str b=>Eg op a b
 |x,y=>
  (match op with
  | .eql=>if HE P t c x y then(uj P 10000 t x y).map .bool else none
  | .neq=>if HE P t c x y then(uj P 10000 t x y).map λb=> .bool (!b) else none
  |_=>none)
theorem agJ(P:Program)(t:TypeId)(x y:Operand)(u v:I):HE P t (isConst x||isConst y) u v=zc P t x y u v:=by
 unfold HE zc;cases u<;>cases v<;>rfl
theorem agO(P:Program)(op:BinOp)(t:TypeId)(x y:Operand)(u v:I):aZ P op t (isConst x||isConst y) u v=Et P op t x y u v:=by
 unfold aZ Et;simp only[agJ];cases u<;>cases v<;>cases op<;>rfl
def Hm(P:Program)(o:Op)(R:fb):Option I:=
 match o with
 | .move x=>gM R x
 | .assign x=>gM R x
 | .pick c a b=>(gM R c).bind λu=>cW u (gM R a) (gM R b)
 | .build t et=>(D9 R et.toList).bind (cM P t)
 | .nilCheck x=>(gM R x).bind b7
 | .binOp op t x y _=>(gM R x).bind λu=>(gM R y).bind λv=>aZ P op t (isConst x||isConst y) u v
 | .unOp op _ x=>(gM R x).bind (fh op)
 | .convert s d x=>(gM R x).bind (Cb P s d)
 | .makeInterface t x=>(gM R x).bind (Lp P t)
 | .makeFunc fn f c=>(xv R f.toList).bind λeA=>(xv R c.toList).bind λcs=>some (.func fn eA cs)
 | .slice t x lo be rk=>(gM R x).bind λv=>(Ei R lo).bind λl=>(Ei R be).bind λh=>(Ei R rk).bind λm=>kh P t v l h m
 | .fieldAddr t x f=>(gM R x).bind λv=>aF P t v f
 | .field t x f=>(gM R x).bind λv=>d8 P t v f
 | .indexAddr t x i=>(gM R x).bind λu=>(gM R i).bind λv=>en P t u v
 | .index t x i=>(gM R x).bind λu=>(gM R i).bind λv=>hP P t u v
 | .extract x i=>(gM R x).bind λv=>gf v i
 | .call c=>match c.callee with
  | .builtin b=>(xv R c.args.toList).bind (dC P .empty b c.argTypes.toList)
  |_=>none
 |_=>none
def Cf(P:Program)(o:Op)(R:fb)(H:J):Option I:=
 match o with
 | .load t x=>(gM R x).bind (am P H t)
 | .lookup t x k ok=>(gM R x).bind λu=>(gM R k).bind λv=>n1 P H t u v ok
 | .convert s d x=>(gM R x).bind (Dy P H s d)
 | .call c=>match c.callee with
  | .builtin b=>(xv R c.args.toList).bind (dC P H b c.argTypes.toList)
  |_=>none
 |_=>none
def eW(l:Nat)(v:I):Option (I×dZ):=bif v.cells.all I.one then some (.ptr l 0 0,.row false v.cells.length [v.cells]) else none
def dH(P:Program)(l:Nat)(t:TypeId)(len:Nat)(parts:List (Nat×I)):Option (I×dZ):=
 match P.underlying t with
 |some (.slice e)=>
  (match fq P e,jZ P e with
  |some fZ,some z=>
   bif decide (len*fZ<=16777216/\z.cells.length=fZ/\z.cells.all I.one=true) then
    (qG fZ (List.replicate len z.cells) parts).bind λels=>some (.aM l 0 len fZ (some len),.row false fZ els)
   else none
  |_,_=>none)
 |_=>none
def Mk(P:Program)(o:Op)(R:fb)(l:Nat):Option (I×dZ):=
 match o with
 | .alloc t=>(jZ P t).bind (eW l)
 | .box _ x=>(gM R x).bind (eW l)
 | .buildSlice t n et=>(D9 R et.toList).bind (dH P l t n)
 | .makeMap _ none=>some (.map l,.map [])
 | .makeSlice t x c=>(gM R x).bind λu=>(gM R c).bind λv=>zI (Gj P ⟨.leaf,l⟩ t u v) l
 |_=>none
def Lt(P:Program)(o:Op)(R:fb)(H:J):Option (I×J):=
 match o with
 | .store t x y=>(gM R x).bind λu=>(gM R y).bind λv=>(aQ P H t u v).bind λH'=>some (.tuple [],H')
 | .mapUpdate t m k x=>(gM R m).bind λu=>(gM R k).bind λv=>(gM R x).bind λz=>(jg P H t u v z).bind λH'=>some (.tuple [],H')
 | .insert t m k x=>(gM R m).bind λu=>(gM R k).bind λv=>(gM R x).bind λz=>(jg P H t u v z).bind λH'=>some (.tuple [],H')
 | .call c=>match c.callee,c.args.toList with
  | .builtin .append,[s,x]=>(gM R s).bind λu=>(gM R x).bind λv=>fM P H c.argTypes.toList u v
  |_,_=>none
 |_=>none
def BC(f:I)(cm:List I):Option (Nat×List I):=match f with
 | .func (.func g) first captured=>some (g,first++cm++captured)
 |_=>none
def K2(R:fb)(c:Call):Option (Nat×List I):=
 match c.callee with
 | .value f=>(gM R f).bind λu=>(xv R c.args.toList).bind λcm=>BC u cm
 |_=>none
def ia(a b:Option I)(k:K->O):O:=match a with
 |some v=>k (.pure v)
 |none=>b.bind λv=>k (.read v)
def Ia(r:Option (I×dZ))(k:K->O):O:=match r with
 |some (v,b)=>k (.new v b)
 |none=>none
def fo(H:J)(r:O)(k:K->O):O:=match r with
 |some (v,H')=>bif decide (H.next<=H'.next) then k (.gX v H') else none
 |none=>none
def Je(P:Program)(call:av)(o:Op)(R:fb)(H:J)(k:K->O):O:=
 match cls o with
 | .pure=>(Hm P o R).bind λv=>k (.pure v)
 | .read=>(Cf P o R H).bind λv=>k (.read v)
 | .both=>ia (Hm P o R) (Cf P o R H) k
 | .new=>Ia (Mk P o R H.next) k
 | .write=>fo H (Lt P o R H) k
 | .call=>match o with
  | .call c=>(K2 R c).bind λp=>fo H (call p.1 p.2 H) k
  |_=>none
def il(b:I)(want:Bool)(m:(K->O)->O)(k:K->O):O:=match b with
 | .bool t=>bif t==want then m k else k .skip
 |_=>k .skip
def Ie(P:Program)(call:av)(ops:Array Oper)(o:Oper)(R:fb)(H:J)(k:K->O):O:=
 match o.guard with
 |none=>Je P call o.op R H k
 |some (j,want)=>match ops[j]? with
  |some q=>(match q.dst with
   |some d=>il (R d) want (Je P call o.op R H) k
   |none=>k .skip)
  |none=>k .skip
def H3(P:Program)(call:av)(ops:Array Oper):List Oper->fb->J->(fb->J->O)->O
 |[],R,H,k=>k R H
 |o::os,R,H,k=>Ie P call ops o R H λx=>H3 P call ops os (iF R o.dst x.val) (x.heap H) k
structure kp where
 i:Nat
 k:K
 rd:J->Option I
def xK(ms:List Nat):List kp->List Nat->Bool
 |[],_=>true
 |t::ts,ids=>match t.k with
  | .gX _ _=>ids.all (λj=>gn ms j t.i)&&xK ms ts (t.i::ids)
  | .new _ _=>xK ms ts (t.i::ids)
  |_=>xK ms ts ids
def cd(r:Option I)(v:I):Bool:=match r with
 |some u=>I.beq u v
 |none=>false
def x4(ms:List Nat)(rd:J->Bool)(i:Nat):List kp->J->Bool
 |[],H=>rd H
 |t::ts,H=>bif t.k.ji then(gn ms t.i i||rd H)&&(gn ms i t.i||x4 ms rd i ts (t.k.heap H)) else x4 ms rd i ts H
def zB(ms:List Nat)(i:Nat):List kp->Bool->Bool
 |[],_=>false
 |t::ts,s=>match t.k with
  | .new _ _=>(s&&gn ms t.i i&&ts.all λu=>xx u.k)||zB ms i ts (s|| !gn ms t.i i)
  | .gX _ _=>zB ms i ts (s|| !gn ms t.i i)
  |_=>zB ms i ts s
def z1(ms:List Nat)(rd:J->Bool)(i:Nat):List kp->J->Bool->Bool
 |[],_,_=>false
 |t::ts,H,s=>match t.k with
  | .new _ b=>bif s&&gn ms t.i i&&ts.all (λu=>xx u.k) then rd (H.push b).only||z1 ms rd i ts (H.push b) (s|| !gn ms t.i i) else z1 ms rd i ts (H.push b) (s|| !gn ms t.i i)
  | .gX _ H'=>z1 ms rd i ts H' (s|| !gn ms t.i i)
  |_=>z1 ms rd i ts H s
def ER(ms:List Nat)(rd:J->Bool)(i:Nat)(T:List kp)(H:J):Bool:=
 bif zB ms i T false then x4 ms rd i T H||z1 ms rd i T H false else x4 ms rd i T H
def xE(ms:List Nat)(hE:List Nat)(T:List kp)(H:J):List kp->Bool
 |[]=>true
 |t::ts=>(match t.k with
  | .read v=>hE.contains t.i||ER ms (λH=>cd (t.rd H) v) t.i T H
  |_=>true)&&xE ms hE T H ts
def qY(ms:List Nat)(hE:List Nat)(T:List kp)(H:J):Bool:=xK ms T []&&xE ms hE T H T
def Eu(P:Program)(call:av)(ops:Array Oper):List Nat->fb->J->(List kp->fb->J->O)->O
 |[],R,H,k=>k [] R H
 |i::is,R,H,k=>match ops[i]? with
  |none=>none
  |some o=>Ie P call ops o R H λx=>Eu P call ops is (iF R o.dst x.val) (x.heap H) λT cj H'=>k (⟨i,x,Cf P o.op R⟩::T) cj H'
def Ma(ops:Array Oper):List Nat:=(order ops).filter (tied ops (gV ops) (order ops))
def quiet(ops:Array Oper):Bool:=ops.toList.all λo=> !zd o.op
def MF(P:Program)(call:av)(ops:Array Oper)(draw:Bool)(R:fb)(H:J)(k:fb->J->O):O:=
 match draw with
 |false=>H3 P call ops ops.toList R H k
 |true=>bif quiet ops then Eu P call ops (order ops) R H λ_ cj H'=>k cj H' else
  Eu P call ops (order ops) R H λT cj H'=>bif qY (gV ops) (Ma ops) T H then k cj H' else none
def bQ(c:Option I)(a b:O):O:=match c with
 |some (.bool t)=>bif t then a else b
 |_=>none
abbrev ih:=fb->J->O
def look(i:Nat):List (Nat×ih)->ih
 |[],_,_=>none
 |(j,k)::bR,R,H=>bif Nat.beq i j then k R H else look i bR R H
def zF(b:ih->ih):Nat->ih
 |0,_,_=>none
 |n+1,R,H=>b (λR H=>zF b n R H) R H
def cA(P:Program)(call:av)(N:Nat):Code->ih->List (Nat×ih)->ih->ih
 | .skip,dN,_,_,R,H=>dN R H
 | .region _ ops d,dN,_,_,R,H=>MF P call ops d R H dN
 | .seq a b,dN,bR,gH,R,H=>cA P call N a (λR H=>cA P call N b dN bR gH R H) bR gH R H
 | .cond c a b,dN,bR,gH,R,H=>bQ (gM R c) (cA P call N a dN bR gH R H) (cA P call N b dN bR gH R H)
 | .block id b,dN,bR,gH,R,H=>cA P call N b dN ((id,dN)::bR) gH R H
 | .loop b,_,bR,gH,R,H=>zF (λdN R H=>cA P call N b dN bR gH R H) N R H
 | .exit id,_,bR,_,R,H=>look id bR R H
 | .ret,_,_,gH,R,H=>gH R H
 | .label _,dN,_,_,R,H=>dN R H
 |_,_,_,_,_,_=>none
def Cx(P:Program)(H:J)(R:fb):List ResultVar->(List I->O)->O
 |[],k=>k []
 | .tmp t::rs,k=>Cx P H R rs λcm=>k (R t::cm)
 | .cell a t::rs,k=>(am P H t (R a)).bind λv=>Cx P H R rs λcm=>k (v::cm)
def vP(P:Program)(rs:List ResultVar):ih:=λR H=>Cx P H R rs λcm=>some (xJ cm,H)
def cF:List I->fb
 |[],_=> .tuple []
 |v::_,0=>v
 |_::cm,n+1=>cF cm n
section
variable {P:Program}{ao:av}{call:av}{R cj:ck}{H:J}
theorem u4(x:Operand):gM R.get x=ew R x:=by cases x<;>rfl
theorem GJ: ∀xs:List Operand,xv R.get xs=ow R xs
 |[]=>rfl
 |x::xs=>by
  simp only[xv,ow,u4,GJ xs];cases ew R x<;>cases ow R xs<;>rfl
theorem Kn: ∀xs:List (Nat×Operand),D9 R.get xs=qM R xs
 |[]=>rfl
 |(i,x)::xs=>by
  simp only[D9,qM,u4,Kn xs];cases ew R x<;>cases qM R xs<;>rfl
theorem afJ(x:Option Operand):Ei R.get x=sM R x:=by
 cases x with
 |none=>rfl
 |some x=>simp only[Ei,sM,u4];cases ew R x<;>rfl
theorem R8(o:Op):Hm P o R.get=qT P o R:=by
 cases o<;>simp only[Hm,qT,u4,GJ,Kn,afJ,agO]
 ·rename_i c a b;cases aS:ew R c with
  |none=>rfl
  |some v=>cases v<;>first|rfl|(rename_i t;cases t<;>rfl)
 ·rename_i c;cases c.callee<;>rfl
theorem KH(o:Op):Cf P o R.get H=mI P o R H:=by
 cases o<;>simp only[Cf,mI,u4,GJ]
 ·rename_i c;cases c.callee<;>rfl
theorem Kc(v:I)(l:Nat)(b:dZ)(ay:b.uu=true):zI (some (v,J.push ⟨.leaf,l⟩ b)) l=some (v,b):=by
 unfold zI;simp only[J.b6,if_true];have:(J.push ⟨.leaf,l⟩ b).get l=some b:=J.ca ⟨.leaf,l⟩ b;rw[this];simp[ay]
theorem RV(l:Nat)(v:I):eW l v=zI (Cq ⟨.leaf,l⟩ v) l:=by
 unfold eW Cq;by_cases h:v.cells.all I.one=true
 ·rw[h,if_pos rfl];exact(Kc _ _ _ rfl).symm
 ·rw[if_neg h];simp only[Bool.not_eq_true] at h;rw[h];rfl
theorem adj(l:Nat)(t:TypeId)(n:Nat)(et:List (Nat×I)):dH P l t n et=zI (Dx P ⟨.leaf,l⟩ t n et) l:=by
 unfold dH Dx;cases hu:P.underlying t with
 |none=>rfl
 |some d=>
  cases d<;>try rfl
  rename_i e;simp only
  cases aO:fq P e with
  |none=>rfl
  |some fZ=>
  cases ct:jZ P e with
  |none=>rfl
  |some z=>
   simp only
   by_cases h:n*fZ<=16777216/\z.cells.length=fZ/\z.cells.all I.one=true
   ·rw[if_pos h,decide_eq_true h];simp only[bx];cases qG fZ (List.replicate n z.cells) et with
    |none=>rfl
    |some els=>exact(Kc _ _ _ rfl).symm
   ·rw[if_neg h,decide_eq_false h];rfl
theorem agP(o:Op)(l:Nat):Mk P o R.get l=rX P o R l:=by
 unfold rX;cases o<;>simp only[Mk,zA,u4,Kn]<;>try rfl
 ·rename_i t;unfold G2;cases jZ P t with
  |none=>rfl
  |some v=>exact RV l v
 ·rename_i t x;cases ew R x with
  |none=>rfl
  |some v=>exact RV l v
 ·rename_i t n et;cases qM R et.toList with
  |none=>rfl
  |some v=>exact adj l t n v
 ·rename_i t r;cases r with
  |none=>exact(Kc _ _ _ rfl).symm
  |some r=>rfl
 ·rename_i t x c;cases ew R x with
  |none=>rfl
  |some u=>cases ew R c<;>rfl
theorem map_bind{α β:Type}(x:Option α)(f:α->β):x.bind (λa=>some (f a))=x.map f:=by cases x<;>rfl
theorem adI(o:Op):Lt P o R.get H=tO P o R H:=by
 cases o<;>simp only[Lt,tO,u4,map_bind]
 ·rename_i c;cases aS:c.callee with
  |builtin b=>
   cases b1:c.args.toList with
   |nil=>cases b<;>rfl
   |cons s r=>
    cases r with
    |nil=>cases b<;>rfl
    |cons x r=>cases r<;>cases b<;>rfl
  |value f=>rfl
  |invoke r m=>rfl
theorem ab1(c:Call):K2 R.get c=u3 R c:=by
 unfold K2 u3;cases aS:c.callee with
 |value f=>
  simp only[u4,GJ];cases ew R f with
  |none=>rfl
  |some v=>
   cases bw:ow R c.args.toList with
   |none=>
    simp only[Option.bind_some,Option.bind_none];split<;>first|rfl|(simp_all;done)
   |some cm=>
    simp only[Option.bind_some];unfold BC;split
    ·rename_i g first captured;rfl
    ·rename_i dK;split
     ·rename_i g first captured he
      simp only[bD] at he;exact absurd he (dK _ _ _)
     ·rfl
 |invoke r m=>rfl
 |builtin b=>rfl
theorem Wd(o:Op)(k:K->O):Je P call o R.get H k=(step1 P call o R H).bind k:=by
 unfold Je step1;cases CT:cls o with
 |pure=>simp only[R8];cases qT P o R<;>rfl
 |read=>simp only[KH];cases mI P o R H<;>rfl
 |both=>
  simp only[R8,KH];unfold ia;cases qT P o R with
  |some v=>rfl
  |none=>cases mI P o R H<;>rfl
 |new=>
  simp only[agP];unfold Ia;cases rX P o R H.next<;>rfl
 |write=>
  simp only[adI];unfold fo;cases h:tO P o R H with
  |none=>rfl
  |some r=>
   obtain⟨v,H'⟩:=r;simp only[Cw];by_cases aV:H.next<=H'.next
   ·rw[if_pos aV,decide_eq_true aV];rfl
   ·rw[if_neg aV,decide_eq_false aV];rfl
 |call=>
  cases o<;>try rfl
  rename_i c;simp only[ab1];cases u3 R c with
  |none=>rfl
  |some p=>
   obtain⟨g,cm⟩:=p;simp only[Option.bind_some];unfold fo;cases h:call g cm H with
   |none=>rfl
   |some r=>
    obtain⟨v,H'⟩:=r;simp only[Cw];by_cases aV:H.next<=H'.next
    ·rw[if_pos aV,decide_eq_true aV];rfl
    ·rw[if_neg aV,decide_eq_false aV];rfl
theorem UN(ops:Array Oper)(o:Oper)(k:K->O):Ie P call ops o R.get H k=(nx P call ops o R H).bind k:=by
 unfold Ie nx tD;cases aX:o.guard with
 |none=>exact Wd o.op k
 |some p=>
  obtain⟨j,want⟩:=p;simp only
  cases bg:ops[j]? with
  |none=>rfl
  |some q=>
   simp only
   cases bb:q.dst with
   |none=>rfl
   |some d=>
    simp only
    cases bw:R.get d<;>try rfl
    rename_i t;simp only[il];cases bW:(t==want) with
    |true=>simp only[bx];exact Wd o.op k
    |false=>rfl
theorem VX{dst:Option Nat}{v:I}(h:R.put dst v=some cj):iF R.get dst v=cj.get:=by
 funext e
 rw[ck.DV h];cases dst with
 |none=>simp[iF]
 |some d=>
  simp only[iF];by_cases he:e=d
  ·subst he;simp[Nat.beq_refl]
  ·have U:Nat.beq e d=false:=by rw[<-Bool.not_eq_true,Nat.beq_eq];exact he
   rw[U];simp[Ne.symm he]
def zC(n:Nat)(o:Oper):Bool:=match o.dst with
 |none=>true
 |some d=>decide (d<n)
theorem VL{o:Oper}(h:zC R.size o=true)(v:I): ∃cj,R.put o.dst v=some cj/\cj.size=R.size:=by
 unfold zC at h;cases bb:o.dst with
 |none=>exact⟨R,rfl,rfl⟩
 |some d=>
  rw[bb] at h;exact⟨{R with t:=dd.put v (d+1) R.t d},by simp only[ck.put];rw[if_pos (of_decide_eq_true h)],rfl⟩
theorem TZ(ops:Array Oper)(k:fb->J->O): ∀(os:List Oper) (R:ck) (H:J),os.all (zC R.size)=true->
  H3 P call ops os R.get H k=(nv P call ops os R H).bind λp=>k p.1.get p.2
 |[],R,H,_=>rfl
 |o::os,R,H,h=>by
  simp only[List.all_cons,Bool.and_eq_true] at h;simp only[H3,nv,UN];cases ah:nx P call ops o R H with
  |none=>rfl
  |some x=>
   obtain⟨cj,U,aa⟩:=VL h.1 x.val;simp only[Option.bind_some,U,VX U];exact TZ ops k os cj _ (by rw[aa];exact h.2)
def dM.c(P:Program)(t:dM):kp:=⟨t.i,t.k,Cf P t.o.op t.R.get⟩
theorem SN(ms:List Nat): ∀(T:List dM) (ids:List Nat),xK ms (T.map (dM.c P)) ids=qU ms T ids
 |[],_=>rfl
 |t::T,ids=>by
  simp only[List.map_cons,xK,qU,dM.c];cases t.k<;>simp only[SN ms T]
theorem Li(ms:List Nat)(rd:J->Bool)(i:Nat): ∀(T:List dM) (H:J),x4 ms rd i (T.map (dM.c P)) H=rV ms rd i T H
 |[],_=>rfl
 |t::T,H=>by
  simp only[List.map_cons,x4,rV,dM.c];cases t.k.ji
  ·simp only[bi];exact Li ms rd i T H
  ·simp only[bx,if_true];rw[Li ms rd i T]
theorem RW(ms:List Nat)(i:Nat): ∀(T:List dM) (s:Bool),zB ms i (T.map (dM.c P)) s=zb ms i T s
 |[],_=>rfl
 |t::T,s=>by
  simp only[List.map_cons,zB,zb,dM.c];cases t.k<;>simp only[RW ms i T,List.all_map]<;>rfl
theorem TH(ms:List Nat)(rd:J->Bool)(i:Nat): ∀(T:List dM) (H:J) (s:Bool),z1 ms rd i (T.map (dM.c P)) H s=sQ ms rd i T H s
 |[],_,_=>rfl
 |t::T,H,s=>by
  simp only[List.map_cons,z1,sQ,dM.c];cases t.k<;>simp only[TH ms rd i T,List.all_map]<;>rfl
theorem aia(ms:List Nat)(rd:J->Bool)(i:Nat)(T:List dM)(H:J):ER ms rd i (T.map (dM.c P)) H=Cm ms rd i T H:=by
 simp only[ER,Cm,RW,TH,Li]
theorem SF(ms:List Nat)(OA:List Nat)(hE:Nat->Bool)(T:List dM)(H:J): ∀(S:List dM),(∀t∈S,OA.contains t.i=hE t.i)->xE ms OA (T.map (dM.c P)) H (S.map (dM.c P))=uh P ms hE T H S
 |[],_=>rfl
 |t::S,h=>by
  simp only[List.map_cons,xE,uh,SF ms OA hE T H S λt bC=>h t (by simp[bC])]
  congr 1
  simp only[dM.c,h t (by simp)];cases t.k<;>try rfl
  simp only[aia]
  congr 2
  funext H
  simp only[cd,ze,KH];cases mI P t.o.op t.R H<;>rfl
theorem Re(ms:List Nat): ∀(T:List dM) (ids:List Nat),(∀t∈T,t.k.ji=false)->qU ms T ids=true
 |[],_,_=>rfl
 |t::T,ids,h=>by
  have bC:=h t (by simp);simp only[qU];have aT:=Re ms T ids λu hu=>h u (by simp[hu])
  cases ah:t.k<;>rw[ah] at bC<;>first|exact aT|(cases bC;done)
theorem Rf(ms:List Nat)(hE:Nat->Bool)(T:List dM)(H:J): ∀(S:List dM),(∀t∈S,hE t.i=true)->uh P ms hE T H S=true
 |[],_=>rfl
 |t::S,h=>by
  simp only[uh,h t (by simp),Rf ms hE T H S λt bC=>h t (by simp[bC]),Bool.true_or,Bool.and_true];cases t.k<;>rfl
theorem K1(ops:Array Oper): ∀(is:List Nat) (R:ck) (H:J) (k:List kp->fb->J->O),ops.toList.all (zC R.size)=true->
  Eu P call ops is R.get H k=(canRun P call ops is R H).bind λp=>k (p.1.map (dM.c P)) p.2.1.get p.2.2
 |[],R,H,k,_=>rfl
 |i::is,R,H,k,h=>by
  simp only[Eu,canRun];cases bs:ops[i]? with
  |none=>rfl
  |some o=>
   simp only[UN];cases ah:nx P call ops o R H with
   |none=>rfl
   |some x=>
    have hm:zC R.size o=true:=by
     rw[List.all_eq_true] at h;exact h o (by have:=Array.mem_of_getElem? bs;simpa using this)
    obtain⟨cj,U,aa⟩:=VL hm x.val;simp only[Option.bind_some,U,VX U];rw[K1 ops is cj _ _ (by rw[aa];exact h)];cases canRun P call ops is cj (x.heap H) with
    |none=>rfl
    |some p=>obtain⟨T,ir,H1⟩:=p;rfl
theorem ag3(ops:Array Oper)(d:Bool)(k:fb->J->O)(h:ops.toList.all (zC R.size)=true):MF P call ops d R.get H k=(ki P call ops d R H).bind λp=>k p.1.get p.2:=by
 unfold MF ki;cases d with
 |false=>exact TZ ops k _ R H h
 |true=>
  simp only
  rw[K1 ops _ R H _ h,K1 ops _ R H _ h];cases aS:canRun P call ops (order ops) R H with
  |none=>cases quiet ops<;>rfl
  |some p=>
   obtain⟨T,ir,H1⟩:=p;have be:=(tv aS).1;have HL: ∀t∈T,t.i∈order ops:=λt bC=>by rw[<-be];exact List.mem_map.2 ⟨t,bC,rfl⟩
   have apD: ∀t∈T,(Ma ops).contains t.i=tied ops (gV ops) (order ops) t.i:=λt bC=>by
    unfold Ma;rw[Bool.eq_iff_iff,List.contains_iff_mem,List.mem_filter];exact⟨λh=>h.2,λh=>⟨HL t bC,h⟩⟩
   simp only[Option.bind_some];cases bg:quiet ops with
   |true=>
    have ja: ∀o∈ops.toList,zd o.op=false:=λo bs=>by
     unfold quiet at bg;rw[List.all_eq_true] at bg;simpa using bg o bs
    have aH: ∀t∈T,t.k.ji=false:=λt bC=>by
     obtain⟨A,B,aoU⟩:=List.append_of_mem bC;have CR:=Kl (P:=P) (call:=call) (by rw[<-aoU];exact aS);cases bW:t.k.ji with
     |false=>rfl
     |true=>
      have:=Qj CR.2.2.1 bW;rw[ja t.o (by have:=Array.mem_of_getElem? CR.1;simpa using this)] at this;cases this
    have Nl: ∀t∈T,tied ops (gV ops) (order ops) t.i=true:=λt _=>by
     unfold tied;rw[List.all_eq_true];intro j _;cases bP:ops[j]? with
     |none=>simp
     |some o=>simp[ja o (by have:=Array.mem_of_getElem? bP;simpa using this)]
    simp only[bx,Re (gV ops) T [] aH,Rf (gV ops) _ T H T Nl];rfl
   |false=>
    simp only[bi,qY,SN,SF _ _ _ T H T apD];cases qU (gV ops) T [] with
    |false=>rfl
    |true=>
     cases uh P (gV ops) (tied ops (gV ops) (order ops)) T H T<;>rfl
def rE(n:Nat):Code->Bool
 | .region _ ops _=>ops.toList.all (zC n)
 | .seq a b=>rE n a&&rE n b
 | .cond _ a b=>rE n a&&rE n b
 | .block _ b=>rE n b
 | .loop b=>rE n b
 |_=>true
def Cs(r:Option (bh×ck×J))(dN:ih)(bR:List (Nat×ih))(gH:ih):O:=match r with
 |some (.normal,R,H)=>dN R.get H
 |some (.exit id,R,H)=>look id bR R.get H
 |some (.ret,R,H)=>gH R.get H
 |none=>none
theorem PS{ops:Array Oper}: ∀{os:List Oper} {R cj:ck} {H H':J},nv P call ops os R H=some (cj,H')->cj.size=R.size
 |[],R,cj,H,H',h=>by
  simp only[nv,bD,dz] at h;rw[h.1]
 |o::os,R,cj,H,H',h=>by
  simp only[nv] at h;split at h
  ·cases h
  ·split at h
   ·cases h
   ·rename_i ir U;rw[PS h,ck.BK U]
theorem PQ{ops:Array Oper}: ∀{is:List Nat} {R cj:ck} {H H':J} {T:List dM},canRun P call ops is R H=some (T,cj,H')->cj.size=R.size
 |[],R,cj,H,H',T,h=>by
  simp only[canRun,bD,dz] at h;rw[h.2.1]
 |i::is,R,cj,H,H',T,h=>by
  simp only[canRun] at h;split at h
  ·cases h
  ·split at h
   ·cases h
   ·split at h
    ·cases h
    ·rename_i ir U;split at h
     ·cases h
     ·rename_i aa;simp only[bD,dz] at h;obtain⟨_,rfl,_⟩:=h;rw[PQ aa,ck.BK U]
theorem abK{ops:Array Oper}{d:Bool}{R cj:ck}{H H':J}(h:ki P call ops d R H=some (cj,H')):cj.size=R.size:=by
 unfold ki at h;split at h
 ·exact PS h
 ·split at h
  ·cases h
  ·rename_i U;split at h
   ·cases h
   ·split at h
    ·cases h
    ·simp only[bD,dz] at h;obtain⟨rfl,_⟩:=h;exact PQ U
theorem Ro{f:ck->J->Option (bh×ck×J)}(ak: ∀R H ex cj H',f R H=some (ex,cj,H')->cj.size=R.size):
  ∀{n:Nat} {R:ck} {H:J} {ex:bh} {cj:ck} {H':J},iter f n R H=some (ex,cj,H')->cj.size=R.size
 |0,_,_,_,_,_,h=>by cases h
 |n+1,R,H,ex,cj,H',h=>by
  simp only[iter] at h;split at h
  ·rename_i ir H1 U;rw[Ro ak h,ak _ _ _ _ _ U]
  ·exact ak _ _ _ _ _ h
theorem PR{N:Nat}: ∀(c:Code) {R:ck} {H:J} {ex:bh} {cj:ck} {H':J},fc (ki P call) N c R H=some (ex,cj,H')->cj.size=R.size:=by
 intro c
 induction c with
 |skip=>intro R H ex cj H' h;simp only[fc,bD,dz] at h;rw[h.2.1]
 |region id ops d=>
  intro R H ex cj H' h;simp only[fc] at h;split at h
  ·rename_i ir H1 U;simp only[bD,dz] at h;obtain⟨_,rfl,_⟩:=h;exact abK U
  ·cases h
 |seq a b jb j6=>
  intro R H ex cj H' h;simp only[fc] at h;split at h
  ·rename_i ir H1 U;rw[j6 h,jb U]
  ·exact jb h
 |cond c a b jb j6=>
  intro R H ex cj H' h;simp only[fc] at h;split at h
  ·exact jb h
  ·exact j6 h
  ·cases h
 |block id b aT=>
  intro R H ex cj H' h;simp only[fc] at h;split at h
  ·rename_i th ir H1 U;split at h<;>(simp only[bD,dz] at h;obtain⟨_,rfl,_⟩:=h;exact aT U)
  ·exact aT h
 |loop b aT=>
  intro R H ex cj H' h;simp only[fc] at h;exact Ro (λ_ _ _ _ _ h=>aT h) h
 |exit id=>intro R H ex cj H' h;simp only[fc,bD,dz] at h;rw[h.2.1]
 |ret=>intro R H ex cj H' h;simp only[fc,bD,dz] at h;rw[h.2.1]
 |label l=>intro R H ex cj H' h;simp only[fc,bD,dz] at h;rw[h.2.1]
 |goto l=>intro R H ex cj H' h;cases h
 |scope b aT=>intro R H ex cj H' h;cases h
 |rangeFunc f et a b jb j6=>intro R H ex cj H' h;cases h
 |refuse y=>intro R H ex cj H' h;cases h
theorem R9{f:ck->J->Option (bh×ck×J)}{b:ih->ih}{bR:List (Nat×ih)}{gH:ih}(m:Nat)(aO: ∀R H ex cj H',f R H=some (ex,cj,H')->cj.size=R.size)
  (ay: ∀(R:ck) (H:J) (dN:ih),R.size=m->b dN R.get H=Cs (f R H) dN bR gH) (dN:ih): ∀(n:Nat) (R:ck) (H:J),R.size=m->zF b n R.get H=Cs (iter f n R H) dN bR gH
 |0,R,H,_=>rfl
 |n+1,R,H,ce=>by
  simp only[zF,iter];rw[ay R H _ ce];cases h:f R H with
  |none=>rfl
  |some x=>
   obtain⟨ex,ir,H1⟩:=x;cases ex with
   |normal=>exact R9 m aO ay dN n ir H1 (by rw[aO _ _ _ _ _ h];exact ce)
   |exit id=>rfl
   |ret=>rfl
theorem RX{N:Nat}: ∀(c:Code) (R:ck) (H:J) (dN:ih) (bR:List (Nat×ih)) (gH:ih),rE R.size c=true->cA P call N c dN bR gH R.get H=Cs (fc (ki P call) N c R H) dN bR gH:=by
 intro c
 induction c with
 |skip=>intro R H dN bR gH _;rfl
 |region id ops d=>
  intro R H dN bR gH h;simp only[cA,fc];rw[ag3 ops d dN h];cases ki P call ops d R H<;>rfl
 |seq a b jb j6=>
  intro R H dN bR gH h;simp only[rE,Bool.and_eq_true] at h;simp only[cA,fc];rw[jb R H _ bR gH h.1];cases he:fc (ki P call) N a R H with
  |none=>rfl
  |some x=>
   obtain⟨ex,ir,H1⟩:=x;cases ex with
   |normal=>exact j6 ir H1 dN bR gH (by rw[PR a he];exact h.2)
   |exit id=>rfl
   |ret=>rfl
 |cond c a b jb j6=>
  intro R H dN bR gH h;simp only[rE,Bool.and_eq_true] at h;simp only[cA,fc,u4];unfold bQ;cases ew R c with
  |none=>rfl
  |some v=>
   cases v<;>try rfl
   rename_i t;cases t
   ·exact j6 R H dN bR gH h.2
   ·exact jb R H dN bR gH h.1
 |block id b aT=>
  intro R H dN bR gH h;simp only[cA,fc];rw[aT R H dN _ gH h];cases he:fc (ki P call) N b R H with
  |none=>rfl
  |some x=>
   obtain⟨ex,ir,H1⟩:=x;cases ex with
   |normal=>rfl
   |ret=>rfl
   |exit th=>
    simp only[Cs,look];by_cases hid:th=id
    ·subst hid;simp[Nat.beq_refl]
    ·have U:Nat.beq th id=false:=by rw[<-Bool.not_eq_true,Nat.beq_eq];exact hid
     rw[U,if_neg hid];rfl
 |loop b aT=>
  intro R H dN bR gH h;simp only[cA,fc];exact R9 R.size (λ_ _ _ _ _ h=>PR b h) (λir H1 dN Na=>aT ir H1 dN bR gH (by rw[Na];exact h)) dN N R H rfl
 |exit id=>intro R H dN bR gH _;rfl
 |ret=>intro R H dN bR gH _;rfl
 |label l=>intro R H dN bR gH _;rfl
 |goto l=>intro R H dN bR gH _;rfl
 |scope b aT=>intro R H dN bR gH _;rfl
 |rangeFunc f et a b jb j6=>intro R H dN bR gH _;rfl
 |refuse y=>intro R H dN bR gH _;rfl
theorem G0{R:ck}{H:J}: ∀(rs:List ResultVar) (k:List I->O),Cx P H R.get rs k=(ny P R H rs).bind k
 |[],k=>rfl
 | .tmp t::rs,k=>by
  simp only[Cx,ny,Cd];rw[G0 rs];cases ny P R H rs<;>rfl
 | .cell a t::rs,k=>by
  simp only[Cx,ny,Cd];cases am P H t (R.get a) with
  |none=>rfl
  |some v=>
   simp only[Option.bind_some];rw[G0 rs];cases ny P R H rs<;>rfl
theorem RC(n:Nat)(args:List I):(ck.enter n args).get=cF args:=by
 have h: ∀(args:List I) (d:Nat),cF args d=(args[d]?).getD (.tuple []):=by
  intro args
  induction args with
  |nil=>intro d;cases d<;>rfl
  |cons v cm aT=>
   intro d;cases d with
   |zero=>rfl
   |succ d=>simpa [cF] using aT d
 funext d
 rw[h];unfold ck.get ck.enter;simp only[KK];by_cases bb:d<args.length
 ·rw[if_pos Z];simp[bb]
 ·rw[if_neg Z,dd.DQ];simp[bb]
theorem afF{f:Nat}{args:List I}{H:J}{fn:Func}{c:Code}{M:Nat}{r:I×J}(tq:ao f args H=none)(ak:P.funcs[f]? =some fn)(ay:fn.body=some c)(bb:rE fn.ntmps c=true)(aV:Nat.ble args.length fn.ntmps=true)
  (h:cA P (au P ao) M c (vP P fn.results.toList) [] (vP P fn.results.toList) (cF args) H=some r):au P ao f args H=some r:=by
 have aO:(ck.enter fn.ntmps args).size=fn.ntmps:=by have:=Nat.le_of_ble_eq_true aV;simp only[ck.enter];omega
 rw[<-RC fn.ntmps,RX c _ _ _ _ _ (by rw[aO];exact bb)] at h;unfold Cs at h;have fin: ∀(R:ck) (H':J),vP P fn.results.toList R.get H'=some r-> ∃cm,ny P R H' fn.results.toList=some cm/\r=(xJ cm,H'):=by
  intro R H' bW;unfold vP at bW;rw[G0] at bW;cases b1:ny P R H' fn.results.toList with
  |none=>rw[b1] at bW;cases bW
  |some cm=>rw[b1] at bW;exact⟨cm,rfl,(Option.some.inj bW).symm⟩
 split at h
 ·rename_i R H' he;obtain⟨cm,U,rfl⟩:=fin R H' h;exact QR tq ak ay he (λid=>by intro bW;cases bW) U
 ·cases h
 ·rename_i R H' he;obtain⟨cm,U,rfl⟩:=fin R H' h;exact QR tq ak ay he (λid=>by intro bW;cases bW) U
 ·cases h
end
end
end Go.f7
namespace Go
def Code.fst:Code->Code
 | .seq a _=>a
 | .cond _ a _=>a
 | .block _ b=>b
 | .loop b=>b
 |c=>c
def Code.snd:Code->Code
 | .seq _ b=>b
 | .cond _ _ b=>b
 |c=>c
def Code.test:Code->Operand
 | .cond c _ _=>c
 |_=> .tmp 0
def Code.num:Code->Nat
 | .block id _=>id
 | .exit id=>id
 |_=>0
def Code.alx:Code->Bool| .seq _ _=>true|_=>false
def Code.aiA:Code->Bool| .cond _ _ _=>true|_=>false
def Code.agR:Code->Bool| .block _ _=>true|_=>false
def Code.aiB:Code->Bool| .loop _=>true|_=>false
end Go
namespace Go.f7
section
section
variable {P:Program}{call:av}{N:Nat}{ri mZ:ih}{m_:List (Nat×ih)}
theorem br{c:Code}{k T:ih}(aS:c.alx=true)(cR: ∀R H,cA P call N c.snd ri m_ mZ R H=k R H)(af: ∀R H,cA P call N c.fst k m_ mZ R H=T R H):
  ∀R H,cA P call N c ri m_ mZ R H=T R H:=by
 cases c<;>first|cases aS|skip
 rename_i a b;intro R H;rw[<-af];show cA P call N a (λR H=>cA P call N b ri m_ mZ R H) m_ mZ R H=_;rw[show(λR H=>cA P call N b ri m_ mZ R H)=k from funext λR=>funext λH=>cR R H];rfl
theorem qF{c:Code}{A B:ih}(aS:c.aiA=true)(b1: ∀R H,cA P call N c.fst ri m_ mZ R H=A R H)(ay: ∀R H,cA P call N c.snd ri m_ mZ R H=B R H):
  ∀R H,cA P call N c ri m_ mZ R H=bQ (gM R c.test) (A R H) (B R H):=by
 cases c<;>first|cases aS|skip
 intro R H;rw[<-b1,<-ay];rfl
theorem fL{c:Code}{T:ih}(aS:c.agR=true)(ay: ∀R H,cA P call N c.fst ri ((c.num,ri)::m_) mZ R H=T R H): ∀R H,cA P call N c ri m_ mZ R H=T R H:=by
 cases c<;>first|cases aS|skip
 intro R H;rw[<-ay];rfl
theorem gD{c:Code}{k:Nat->ih}(aS:c.aiB=true)(a6: ∀R H,k 0 R H=none)(aO: ∀n R H,cA P call N c.fst (k n) m_ mZ R H=k (n+1) R H): ∀R H,cA P call N c ri m_ mZ R H=k N R H:=by
 cases c<;>first|cases aS|skip
 rename_i b;have key: ∀n R H,zF (λdN R H=>cA P call N b dN m_ mZ R H) n R H=k n R H:=by
  intro n
  induction n with
  |zero=>intro R H;exact(a6 R H).symm
  |succ n aT=>
   intro R H;rw[<-aO n R H];show cA P call N b (λR H=>zF _ n R H) m_ mZ R H=_;rw[show(λR H=>zF (λdN R H=>cA P call N b dN m_ mZ R H) n R H)=k n from funext λR=>funext λH=>aT R H];rfl
 intro R H;exact key N R H
theorem aN(c:Code): ∀R H,cA P call N c ri m_ mZ R H=cA P call N c ri m_ mZ R H:=λ_ _=>rfl
def ab(r:Option I)(k:I->O):O:=match r with
 |some v=>k v
 |none=>none
def aL(H:J)(r:O)(k:I->J->O):O:=match r with
 |some (v,H')=>bif decide (H.next<=H'.next) then k v H' else none
 |none=>none
def a1(H:J)(r:Option J)(k:J->O):O:=aL H (r.bind λH'=>some (.tuple [],H')) λ_ H'=>k H'
def dA(H:J)(r:Option (I×dZ))(k:I->J->O):O:=match r with
 |some (v,b)=>k v (H.push b)
 |none=>none
def cv(H:J)(cs:List I)(k:I->J->O):O:=k (.ptr H.next 0 0) (H.push (.row false cs.length [cs]))
def di(fn:Func):Code:=match fn.body with
 |some c=>c
 |none=> .skip
def bj(P:Program)(b:Builtin)(ts:List TypeId)(cm:List I)(H:J)(k:I->O):O:=match dC P .empty b ts cm with
 |some v=>k v
 |none=>(dC P H b ts cm).bind k
def Me(P:Program)(s d:TypeId)(v:I)(H:J)(k:I->O):O:=match Cb P s d v with
 |some v=>k v
 |none=>(Dy P H s d v).bind k
def qR(call:av)(H:J)(f:I)(cm:List I)(k:I->J->O):O:=(BC f cm).bind λp=>aL H (call p.1 p.2 H) k
def dw(v:I)(q:K->O):O:=q (.pure v)
def bm(r:Option I)(q:K->O):O:=r.bind λv=>q (.pure v)
def qr(r:Option I)(q:K->O):O:=r.bind λv=>q (.read v)
def aD(b:I)(want:Bool)(H:J)(m:(K->O)->O)(k:I->J->O):O:=il b want m λx=>k x.val (x.heap H)
end
end
end Go.f7
set_option linter.unusedVariables false
namespace Go.f7
section
def W(m:O)(Q:I->J->Prop):Prop:= ∃v H,m=some (v,H)/\Q v H
theorem a8{v:I}{H:J}{Q:I->J->Prop}:W (some (v,H)) Q↔Q v H:=by
 constructor
 ·rintro⟨dr,H',h,q⟩;simp only[bD,dz] at h;obtain⟨rfl,rfl⟩:=h;exact q
 ·exact λq=>⟨v,H,rfl,q⟩
theorem W.mono{m:O}{Q yu:I->J->Prop}(h:W m Q)(bg: ∀v H,Q v H->yu v H):W m yu:=by
 obtain⟨v,H,e,q⟩:=h;exact⟨v,H,e,bg v H q⟩
theorem aY{r:O}{H:J}{k:I->J->O}{Q yu:I->J->Prop}(h:W r yu)(ah: ∀v H',yu v H'->H.next<=H'.next/\W (k v H') Q):W (aL H r k) Q:=by
 obtain⟨v,H',e,q⟩:=h;obtain⟨U,aa⟩:=ah v H' q;rw[e];simp only[aL,decide_eq_true U,bx];exact aa
theorem agt{call:av}{f:Nat}{a c cm:List I}{H:J}{k:I->J->O}{Q:I->J->Prop}(h:W (aL H (call f (a++cm++c) H) k) Q):W (qR call H (.func (.func f) a c) cm k) Q:=h
theorem hh{r:O}{H:J}{q:K->O}{Q yu:I->J->Prop}(h:W r yu)(ah: ∀v H',yu v H'->H.next<=H'.next/\W (q (.gX v H')) Q):W (fo H r q) Q:=by
 obtain⟨v,H',e,rl⟩:=h;obtain⟨U,aa⟩:=ah v H' rl;rw[e];simp only[fo,decide_eq_true U,bx];exact aa
theorem lz{r:O}{H:J}{x:I}{k:I->J->O}{Q:I->J->Prop}(h:W r λv H'=>v=x/\H'=H)(ah:W (k x H) Q):W (aL H r k) Q:=by
 refine aY h ?_;rintro _ H' ⟨rfl,e⟩;rw[e];exact⟨bL _,ah⟩
theorem rC{r:O}{H:J}{x:I}{q:K->O}{Q:I->J->Prop}(h:W r λv H'=>v=x/\H'=H)(ah:W (q (.gX x H)) Q):W (fo H r q) Q:=by
 refine hh h ?_;rintro _ H' ⟨rfl,e⟩;rw[e];exact⟨bL _,ah⟩
theorem cU{m fp:O}{Q:I->J->Prop}(a7: ∀r,m=some r->fp=some r)(h:W m Q):W fp Q:=by
 obtain⟨v,H,e,q⟩:=h;exact⟨v,H,a7 _ e,q⟩
def mB:Nat:=0
def aqu:Nat:=0
theorem aac:mB=aqu:=rfl
def Dm(v:I)(H:J)(k:I->J->O):O:=k v H
section
variable {r hH:Option I}{o Dl:O}{m fp:Option (I×dZ)}{h bZ:Option J}{H H':J}{a er:I}{b fK:Bool}{z:Nat}
 @[congr] theorem aqP {k:I->J->O} (e:a=er) (d:H=H') (y:mB=z):Dm a H k=Dm er H' k:=by rw[e,d]
theorem Rw(H:J)(cs:List I)(k:I->J->O):cv H cs k=Dm (.ptr H.next 0 0) (H.push (.row false cs.length [cs])) k:=rfl
theorem WY(v:I)(H:J)(k:I->J->O):Dm v H k=k v H:=rfl
 @[congr] theorem aqN {k:I->O} (e:r=hH) (y:mB=z):ab r k=ab hH k:=by rw[e]
 @[congr] theorem aqz {k:I->J->O} (d:H=H') (e:o=Dl) (y:mB=z):aL H o k=aL H' Dl k:=by rw[d,e]
 @[congr] theorem aqD {k:K->O} (d:H=H') (e:o=Dl) (y:mB=z):fo H o k=fo H' Dl k:=by rw[d,e]
 @[congr] theorem aqx {k:J->O} (d:H=H') (e:h=bZ) (y:mB=z):a1 H h k=a1 H' bZ k:=by rw[d,e]
 @[congr] theorem aqA {k:I->J->O} (d:H=H') (e:m=fp) (y:mB=z):dA H m k=dA H' fp k:=by rw[d,e]
 @[congr] theorem aqE {k:K->O} (e:m=fp) (y:mB=z):Ia m k=Ia fp k:=by rw[e]
 @[congr] theorem aqG {p q:O} (e:r=hH) (y:mB=z):bQ r p q=bQ hH p q:=by rw[e]
 @[congr] theorem aqB {p q:O} (e:b=fK) (y:mB=z):cond b p q=cond fK p q:=by rw[e]
 @[congr] theorem aqO {w:Bool} {f:(K->O)->O} {k:I->J->O} (e:a=er) (y:mB=z):aD a w H f k=aD er w H f k:=by rw[e]
 @[congr] theorem aqw {w:Bool} {f:(K->O)->O} {k:K->O} (e:a=er) (y:mB=z):il a w f k=il er w f k:=by rw[e]
 @[congr] theorem aqy {s s':Option I} {k:K->O} (e:r=hH) (d:s=s') (y:mB=z):ia r s k=ia hH s' k:=by rw[d,e]
 @[congr] theorem aqK {q:K->O} (e:r=hH) (y:mB=z):bm r q=bm hH q:=by rw[e]
 @[congr] theorem aqL {q:K->O} (e:r=hH) (y:mB=z):qr r q=qr hH q:=by rw[e]
 @[congr] theorem aqM {q:K->O} (e:a=er) (y:mB=z):dw a q=dw er q:=by rw[e]
theorem TQ(v:I)(q:K->O):bm (some v) q=q (.pure v):=rfl
theorem TR(v:I)(q:K->O):qr (some v) q=q (.read v):=rfl
theorem WB(v:I)(q:K->O):dw v q=q (.pure v):=rfl
end
theorem Sp(k:IntKind)(n:Int):cd (some (.int k n)) (.int k n)=true:=by simp[cd,I.beq]
theorem Sq(x:List UInt8):cd (some (.str x)) (.str x)=true:=by simp[cd,I.beq]
theorem Rh(x:Bool):cd (some (.bool x)) (.bool x)=true:=by simp[cd,I.beq]
theorem u7(l i n e:Nat)(c:Option Nat):cd (some (.aM l i n e c)) (.aM l i n e c)=true:=by simp[cd,I.beq]
theorem Kg:cd (some .an) .an=true:=rfl
theorem TS(x:List UInt8)(k:IntKind)(n:Int):cd (some (.agg [.str x,.int k n])) (.agg [.str x,.int k n])=true:=by simp[cd,I.beq,jA.beq]
theorem J.yL(H:J)(b:dZ)(l:Nat):(H.push b).get l=if l=H.next then some b else H.get l:=by
 split
 ·rename_i h;subst h;exact J.ca H b
 ·rename_i h;exact J.gy h
theorem dd.GB{α:Type}(x y:α): ∀(p:List uT) (t:dd α),dd.hr y p (dd.hr x p t)=dd.hr y p t
 |[],.leaf=>rfl
 |[],.node .. =>rfl
 |d::p,.leaf=>by cases d<;>simp[dd.hr,dd.GB x y p]
 |d::p,.node .. =>by cases d<;>simp[dd.hr,dd.GB x y p]
theorem J.n0(H:J)(b c:dZ):(H.push b).set H.next c=H.push c:=by
 simp only[J.push,J.set,dd.put,dd.GB]
theorem J.set_set(H:J)(l:Nat)(b c:dZ):(H.set l b).set l c=H.set l c:=by
 simp only[J.set,dd.put,dd.GB]
theorem J.wJ{H:J}{b:dZ}{l:Nat}(h:l<=H.next)(bZ:H.next<=l):(H.push b).get l=some b:=by
 obtain rfl:l=H.next:=Z
 exact J.ca H b
theorem J.PH{H:J}{b c:dZ}{l:Nat}(h:l<=H.next)(bZ:H.next<=l):(H.push b).set l c=H.push c:=by
 obtain rfl:l=H.next:=Z
 exact J.n0 H b c
def dE(S:Nat->Prop)(H H':J):Prop:=H.next<=H'.next/\ ∀l,l<H.next-> ¬S l->H'.get l=H.get l
def aR(H H':J):Prop:=H.next<=H'.next/\ ∀l,l<H.next->H'.get l=H.get l
theorem aR.refl(H:J):aR H H:=⟨bL _,λ_ _=>rfl⟩
theorem aR.trans{H H1 bl:J}(h:aR H H1)(k:aR H1 bl):aR H bl:=⟨Nat.le_trans h.1 k.1,λl ax=>(k.2 l (Nat.lt_of_lt_of_le ax h.1)).trans (h.2 l ax)⟩
theorem aR.push(H:J)(b:dZ):aR H (H.push b):=⟨by simp,λl ax=>J.gy Z⟩
theorem aR.bV{H H1:J}(h:aR H H1)(b:dZ):aR H (H1.push b):=h.trans (aR.push H1 b)
theorem aR.de{H H1:J}(h:aR H H1){l:Nat}(ax:H.next<=l)(b:dZ):aR H (H1.set l b):=
 ⟨h.1,λj bP=>by rw[J.get_set_other Z];exact h.2 j bP⟩
theorem aR.get{H H':J}(h:aR H H'){l:Nat}{b:dZ}(ay:H.get l=some b):H'.get l=some b:=by rw[h.2 l (J.aW ay)];exact ay
theorem aR.mut{H H':J}(h:aR H H')(S:Nat->Prop):dE S H H':=⟨h.1,λl ax _=>h.2 l ax⟩
theorem dE.refl(S:Nat->Prop)(H:J):dE S H H:=(aR.refl H).mut S
theorem dE.trans{S:Nat->Prop}{H H1 bl:J}(h:dE S H H1)(k:dE S H1 bl):dE S H bl:=⟨Nat.le_trans h.1 k.1,λl ax aO=>(k.2 l (Nat.lt_of_lt_of_le ax h.1) aO).trans (h.2 l ax aO)⟩
theorem dE.bV{S:Nat->Prop}{H H1:J}(h:dE S H H1)(b:dZ):dE S H (H1.push b):=h.trans ((aR.push H1 b).mut S)
theorem dE.de{S:Nat->Prop}{H H1:J}(h:dE S H H1){l:Nat}(ax:S l\/H.next<=l)(b:dZ):dE S H (H1.set l b):=
 ⟨h.1,λj bP aO=>by rw[J.get_set_other (by rintro rfl;exact ax.elim aO Z)];exact h.2 j bP aO⟩
theorem dE.get{S:Nat->Prop}{H H':J}(h:dE S H H'){l:Nat}{b:dZ}(ay:H.get l=some b)(aO: ¬S l):H'.get l=some b:=by rw[h.2 l (J.aW ay) aO];exact ay
section
variable {P:Program}{H:J}
theorem T3(v:I)(k:I->O):ab (some v) k=k v:=rfl
theorem ix(b:Bool)(x y:O):bQ (some (.bool b)) x y=bif b then x else y:=rfl
theorem ks{v:I}{H':J}{k:I->J->O}(h:H.next<=H'.next):aL H (some (v,H')) k=k v H':=by
 simp only[aL,decide_eq_true h,bx]
theorem lx{H':J}{k:J->O}(h:H.next<=H'.next):a1 H (some H') k=k H':=by
 simp only[a1,Option.bind_some];exact ks h
theorem yF(v:I)(b:dZ)(k:I->J->O):dA H (some (v,b)) k=k v (H.push b):=rfl
theorem WX(m:(K->O)->O)(k:I->J->O):aD (.bool true) true H m k=m (λx=>Dm x.val (x.heap H) k):=rfl
theorem WT(m:(K->O)->O)(k:I->J->O):aD (.bool false) false H m k=m (λx=>Dm x.val (x.heap H) k):=rfl
theorem WW(m:(K->O)->O)(k:I->J->O):aD (.bool true) false H m k=k (.tuple []) H:=rfl
theorem WU(m:(K->O)->O)(k:I->J->O):aD (.bool false) true H m k=k (.tuple []) H:=rfl
theorem WV(w:Bool)(m:(K->O)->O)(k:I->J->O):aD (.tuple []) w H m k=k (.tuple []) H:=rfl
theorem QG(v:I)(b:Option I)(k:K->O):ia (some v) b k=k (.pure v):=rfl
theorem Sk(a b:Option I):cW (.bool true) a b=a:=rfl
theorem Sj(a b:Option I):cW (.bool false) a b=b:=rfl
theorem SK(b:Bool):fh .not (.bool b)=some (.bool (!b)):=rfl
theorem RA(l i c:Nat):b7 (.ptr l i c)=some (.ptr l i c):=rfl
theorem PW(v:I):(K.pure v).val=v:=rfl
theorem PX(v:I):(K.read v).val=v:=rfl
theorem QI(v:I)(b:dZ):(K.new v b).val=v:=rfl
theorem QH(v:I)(H':J):(K.gX v H').val=v:=rfl
theorem PY:K.skip.val= .tuple []:=rfl
theorem Dv(v:I):(K.pure v).heap H=H:=rfl
theorem Dw(v:I):(K.read v).heap H=H:=rfl
theorem PV(v:I)(b:dZ):(K.new v b).heap H=H.push b:=rfl
theorem DE(v:I)(H':J):(K.gX v H').heap H=H':=rfl
theorem Pm:K.skip.heap H=H:=rfl
theorem OP(cm:List I)(i:Nat):gf (.tuple cm) i=cm[i]? :=rfl
theorem RZ(t:TypeId)(c:Bool)(k:IntKind)(a b:Int):aZ P .add t c (.int k a) (.int k b)=some (.int k (k.wrap (a+b))):=by simp[aZ,pQ]
theorem R6(t:TypeId)(c:Bool)(k:IntKind)(a b:Int):aZ P .sub t c (.int k a) (.int k b)=some (.int k (k.wrap (a-b))):=by simp[aZ,pQ]
theorem afG(t:TypeId)(c:Bool)(k:IntKind)(a b:Int):aZ P .mul t c (.int k a) (.int k b)=some (.int k (k.wrap (a*b))):=by simp[aZ,pQ]
theorem R0(t:TypeId)(c:Bool)(k:IntKind)(a b:Int):aZ P .eql t c (.int k a) (.int k b)=some (.bool (a==b)):=by simp[aZ,pQ]
theorem R5(t:TypeId)(c:Bool)(k:IntKind)(a b:Int):aZ P .neq t c (.int k a) (.int k b)=some (.bool (a != b)):=by simp[aZ,pQ]
theorem R4(t:TypeId)(c:Bool)(k:IntKind)(a b:Int):aZ P .lss t c (.int k a) (.int k b)=some (.bool (decide (a<b))):=by simp[aZ,pQ]
theorem R3(t:TypeId)(c:Bool)(k:IntKind)(a b:Int):aZ P .leq t c (.int k a) (.int k b)=some (.bool (decide (a<=b))):=by simp[aZ,pQ]
theorem R2(t:TypeId)(c:Bool)(k:IntKind)(a b:Int):aZ P .gtr t c (.int k a) (.int k b)=some (.bool (decide (b<a))):=by simp[aZ,pQ]
theorem R1(t:TypeId)(c:Bool)(k:IntKind)(a b:Int):aZ P .geq t c (.int k a) (.int k b)=some (.bool (decide (b<=a))):=by simp[aZ,pQ]
theorem QT(t:TypeId)(c:Bool)(a b:List UInt8):aZ P .eql t c (.str a) (.str b)=some (.bool (a==b)):=rfl
theorem QU(t:TypeId)(c:Bool)(a b:List UInt8):aZ P .neq t c (.str a) (.str b)=some (.bool (!(a==b))):=rfl
theorem adD(t:TypeId)(c:Bool)(a b:List UInt8)(h:a.length+b.length<=9223372036854775807):aZ P .add t c (.str a) (.str b)=some (.str (a++b)):=by
 simp only[aZ,Eg,if_pos h]
theorem LG{t:TypeId}{n:Nat}(aV:fq P t=some n){l i c esz:Nat}{els:List (List I)}{e:List I}{v:I}(h:H.get l=some (.row false esz els))(he:els[i]? =some e)(bw:v.cells.length=n)(bs:v.cells.all I.one=true)(aS:c+n<=esz):
  aQ P H t (.ptr l i c) v=some (H.set l (.row false esz (els.set i (eu e c v.cells)))):=by
 simp only[aQ,h,he];rw[if_pos ⟨by rw[aV,bw],by rw[bw];exact aS,bs⟩]
theorem iy(k:IntKind)(n:Int):(I.int k n).one=true:=rfl
theorem jJ(x:List UInt8):(I.str x).one=true:=rfl
theorem yN(x:Bool):(I.bool x).one=true:=rfl
theorem K9(l i c:Nat):(I.ptr l i c).one=true:=rfl
theorem LB(l i n e:Nat)(c:Option Nat):(I.aM l i n e c).one=true:=rfl
theorem Bt:I.an.one=true:=rfl
theorem KL(f:Fn)(a c:List I):(I.func f a c).one=true:=rfl
theorem j_{v:I}(h:v.one=true):v.cells=[v]:=by cases v<;>first|rfl|cases h
theorem ij(l:Nat)(cs:List I)(h:cs.all I.one=true):eW l (.agg cs)=some (.ptr l 0 0,.row false cs.length [cs]):=by
 simp only[eW,I.cells,h,bx]
end
end
end Go.f7
namespace Go.Proofs.YtghmbpmaafnodaaGreatDoor
open Go.f7
noncomputable def P:Program:=Tryz.prog
noncomputable abbrev b_(f:Func):ih:=vP P f.results.toList
noncomputable abbrev bp(f:Func)(G:av)(N:Nat):ih:=cA P G N (di f) (b_ f) [] (b_ f)
theorem ds{A B C:ih}(h: ∀R H,A R H=B R H)(aa: ∀R H,B R H=C R H): ∀R H,A R H=C R H:=λR H=>(h R H).trans (aa R H)
theorem cP{A B:ih}{R:fb}{H:J}{t:O}(h: ∀R H,A R H=B R H)(aa:B R H=t):A R H=t:=(h R H).trans aa
def FV(H:J)(r:Option J)(k:I->J->O):O:=aL H (r.bind λH'=>some (.tuple [],H')) k
theorem ags{H H':J}{k:I->J->O}(h:H.next<=H'.next):FV H (some H') k=k (.tuple []) H':=by
 simp only[FV,Option.bind_some];exact ks h
 @[congr] theorem aqH {H bl:J} {h bZ:Option J} {z:Nat} {k:I->J->O} (d:H=bl) (e:h=bZ) (ZQ:mB=z):FV H h k=FV bl bZ k:=by rw[d,e]
def sY:List (List I):=Lib.asciiSpaceTab.map λn=>[.int .u8 n]
def uU:Env:=λl=>match l with
 |0=>some ⟨0,0,1,256⟩
 |1=>some ⟨4,0,1,1⟩
 |_=>none
def xS:List (List I):=[[.iface 191 (.ptr 2 0 0)]]
open Classical in
noncomputable def ao:av:=λf args H=>match f,args with
 |66,[.str s,.int .u8 c]=>some (.int .i64 (Lib.indexByte s c.toNat.toUInt8),H)
 |100,[.str s]=>if s.length<4294967281/\(∀(j:Nat) b,s[j]? =some b->b.toNat<128)/\H.get 0=some (.row true 1 sY) then
  some (.aM H.next 0 (Lib.fields s).length 1 (some (Lib.fields s).length),H.push (.row false 1 ((Lib.fields s).map λl=>[.str l]))) else none
 |99,[.str s]=>if s.length<=281474976710656/\H.get 1=some (.row true 1 xS) then
  (match Lib.atoiAll s with
  | .ok v=>some (.tuple [.int .i64 v,.nilIface],H)
  | .range=>some (.tuple [.int .i64 (Lib.atoiSat s),.iface 152 (.ptr H.next 0 0)],H.push .dead)
  |_=>none) else none
 |_,_=>none
theorem cV{f:Nat}{fn:Func}{N:Nat}{args:List I}{H:J}{r:I×J}(tq:ao f args H=none)(ak:P.funcs[f]? =some fn)(ay:fn.body=some (di fn))(bb:rE fn.ntmps (di fn)=true)(aV:Nat.ble args.length fn.ntmps=true)(h:bp fn (au P ao) N (cF args) H=some r):au P ao f args H=some r:=afF tq ak ay bb aV h
end Go.Proofs.YtghmbpmaafnodaaGreatDoor
namespace Go.f7
section
theorem dd.Ku{α:Type}(x y:α): ∀(p q:List uT) (t:dd α),p≠q->dd.hr x p (dd.hr y q t)=dd.hr y q (dd.hr x p t)
 |[],[],_,h=>absurd rfl h
 |[],d::q,.leaf,_=>by cases d<;>simp[dd.hr]
 |[],d::q,.node ..,_=>by cases d<;>simp[dd.hr]
 |d::p,[],.leaf,_=>by cases d<;>simp[dd.hr]
 |d::p,[],.node ..,_=>by cases d<;>simp[dd.hr]
 |d::p,e::q,.leaf,h=>by
  by_cases bb:d=e
  ·subst bb;have aT:=dd.Ku x y p q .leaf (λbW=>h (by rw[bW]));cases d<;>simp[dd.hr,aT]
  ·cases d<;>cases e<;>first|exact absurd rfl bb|simp[dd.hr]
 |d::p,e::q,.node v c0 bJ c2 c3 c4 c5 qv qw,h=>by
  by_cases bb:d=e
  ·subst bb;have aT:=λc=>dd.Ku x y p q c (λbW=>h (by rw[bW]))
   cases d<;>simp[dd.hr,aT]
  ·cases d<;>cases e<;>first|exact absurd rfl bb|simp[dd.hr]
theorem J.h8{H:J}{b c:dZ}{l:Nat}(h:l<H.next):(H.push b).set l c=(H.set l c).push b:=by
 simp only[J.push,J.set,dd.put];rw[dd.Ku _ _ _ _ _ (λe=>by have:=Si e;omega)]
theorem BB(m:(K->O)->O)(k:K->O):il (.bool true) true m k=m k:=rfl
theorem Bx(m:(K->O)->O)(k:K->O):il (.bool false) false m k=m k:=rfl
theorem BA(m:(K->O)->O)(k:K->O):il (.bool true) false m k=k .skip:=rfl
theorem By(m:(K->O)->O)(k:K->O):il (.bool false) true m k=k .skip:=rfl
theorem Bz(w:Bool)(m:(K->O)->O)(k:K->O):il (.tuple []) w m k=k .skip:=rfl
theorem zz{c:Bool}{a b:O}{Q:I->J->Prop}(aS:c=true)(h:W a Q):W (bif c then a else b) Q:=by rw[aS];exact h
def ug:List kp->J->List J
 |[],H=>[H]
 |t::ts,H=>H::ug ts (t.k.heap H)
theorem Ru{ms:List Nat}{rd:J->Bool}{i:Nat}: ∀(T:List kp) (H:J),(∀H'∈ug T H,rd H'=true)->x4 ms rd i T H=true
 |[],H,h=>h H (by simp[ug])
 |t::ts,H,h=>by
  have a6:=h H (by simp[ug]);have aT:=Ru (ms:=ms) (rd:=rd) (i:=i) ts (t.k.heap H) (λH' hm=>h H' (by simp[ug,hm]));rw[x4];cases ah:t.k.ji with
  |true=>simp[a6,aT]
  |false=>
   have:t.k.heap H=H:=by cases bW:t.k<;>simp[bW,K.ji,K.heap] at ah ⊢
   rw[this] at aT;simp[aT]
theorem afe{ms:List Nat}{rd:J->Bool}{i:Nat}{T:List kp}{H:J}(h: ∀H'∈ug T H,rd H'=true):ER ms rd i T H=true:=by
 rw[ER,Ru T H h];cases zB ms i T false<;>rfl
def uq(hE:List Nat)(T:List kp)(H:J):List kp->Prop
 |[]=>True
 |t::ts=>(∀v,t.k= .read v->hE.contains t.i=true\/ ∀H'∈ug T H,cd (t.rd H') v=true)/\uq hE T H ts
theorem QF{ms hE:List Nat}{T:List kp}{H:J}: ∀S:List kp,uq hE T H S->xE ms hE T H S=true
 |[],_=>rfl
 |t::ts,h=>by
  rw[uq] at h;rw[xE,QF ts h.2,Bool.and_true];split
  ·rename_i v ah;rcases h.1 v ah with U|U
   ·rw[U,Bool.true_or]
   ·rw[afe U,Bool.or_true]
  ·rfl
theorem Bs{ms hE:List Nat}{T:List kp}{H:J}(U:xK ms T []=true)(aa:uq hE T H T):qY ms hE T H=true:=by
 rw[qY,U,QF T aa];rfl
section
variable {E:Env}{P:Program}{ao:av}
theorem Qd(px:y_ P){G:av}(Jg:rB E P G){N f:Nat}{args:List I}{H H1:J}{fn:Func}{c:Code}{ex:bh}{R:ck}{cm:List I}
  (jp:P.funcs[f]? =some fn) (aS:fn.body=some c) (ph:fc (ki P G) N c (ck.enter fn.ntmps args) H=some (ex,R,H1)) (dK: ∀id,ex≠ .exit id) (tf:ny P R H1 fn.results.toList=some cm):wP E P f args H (xJ cm) H1:=by
 intro ρ w xs ce ak o0 aV next rO
 have LQ:=Pd (N:=N) PI (Ph px.mixed Jg) c (px.WA _ _ _ jp aS);have zE:(fn.name== "runtime.NumGoroutine")=false:=px.names fn (Array.mem_of_getElem? jp);have oD:(callFunc f xs.toArray).run P w= .ok (.enter f xs.toArray) w:=by
  unfold callFunc;simp[jp,aS];intro bW;simp[bW] at zE
 unfold zN;rw[oD];simp only
 refine calls_of_wp jp aS (LQ _ _ _ _ _ ph ρ w _ _ ce ak (QQ o0 fn.ntmps) λcX er b5 U aa=> ?_);obtain⟨x,aI,bc⟩:=O5 aa.rel U tf;have s9:=rO x b5 cX bc aa;cases ex with
 |normal=>exact⟨U.none,x,aI,s9⟩
 |ret=>exact⟨U.none,x,aI,s9⟩
 |exit id=>exact absurd rfl (dK id)
theorem afB(px:y_ P){G:av}(Jg:rB E P G){f:Nat}{args:List I}{H:J}{fn:Func}{c:Code}{M:Nat}{r:I×J}(ak:P.funcs[f]? =some fn)(ay:fn.body=some c)(bb:rE fn.ntmps c=true)(aV:Nat.ble args.length fn.ntmps=true)
  (h:cA P G M c (vP P fn.results.toList) [] (vP P fn.results.toList) (cF args) H=some r):wP E P f args H r.1 r.2:=by
 have aO:(ck.enter fn.ntmps args).size=fn.ntmps:=by have:=Nat.le_of_ble_eq_true aV;simp only[ck.enter];omega
 rw[<-RC fn.ntmps,RX c _ _ _ _ _ (by rw[aO];exact bb)] at h;unfold Cs at h;have fin: ∀(R:ck) (H':J),vP P fn.results.toList R.get H'=some r-> ∃cm,ny P R H' fn.results.toList=some cm/\r=(xJ cm,H'):=by
  intro R H' bW;unfold vP at bW;rw[G0] at bW;cases b1:ny P R H' fn.results.toList with
  |none=>rw[b1] at bW;cases bW
  |some cm=>rw[b1] at bW;exact⟨cm,rfl,(Option.some.inj bW).symm⟩
 split at h
 ·rename_i R H' he;obtain⟨cm,U,rfl⟩:=fin R H' h;exact Qd px Jg ak ay he (λid=>by intro bW;cases bW) U
 ·cases h
 ·rename_i R H' he;obtain⟨cm,U,rfl⟩:=fin R H' h;exact Qd px Jg ak ay he (λid=>by intro bW;cases bW) U
 ·cases h
theorem Rel.TA{ρ:Env}{H:J}{w b5:World}(h:Rel ρ H w)(ah: ∀b,b<w.heap.size->b5.heap[b]? =w.heap[b]?):Rel ρ H b5:=by
 have key: ∀b x,w.heap[b]? =some x->b5.heap[b]? =some x:=λb x e=>by
  rw[ah b ?_];exact e;exact(Array.getElem?_eq_some_iff.1 e).1
 refine⟨λl ro esz els e=> ?_,λl es e=> ?_,h.apart⟩
 ·obtain⟨loc,U,aa,c,t,h4,ae,al⟩:=h.row l ro esz els e;exact⟨loc,U,aa,c,t,h4,key _ _ ae,al⟩
 ·obtain⟨loc,U,ents,clock,ae,al⟩:=h.map l es e;exact⟨loc,U,ents,clock,key _ _ ae,al⟩
theorem J.Gs(l:Nat):J.empty.get l=none:=by
 cases h:J.empty.get l with
 |none=>rfl
 |some b=>exact absurd (J.aW h) (Nat.not_lt_zero l)
theorem ad2(w:World):Rel (λ_=>none) J.empty w:=by
 refine⟨λl ro esz els e=> ?_,λl es e=> ?_,λl l' loc dB _ _ _ h=> ?_⟩
 ·rw[J.Gs] at e;cases e
 ·rw[J.Gs] at e;cases e
 ·cases h
end
end
end Go.f7
namespace Go.Proofs.YtghmbpmaafnodaaGreatDoor
open Go.f7
def agY(eA:List Func):Bool:=eA.all λfn=> !(fn.name== "runtime.NumGoroutine")
def afz(eA:List Func):Bool:=eA.all λfn=>match fn.body with
 |some c=>sA c
 |none=>true
theorem adY{P:Program}(U:P.follows .mixedOrders=true)(aa:agY P.funcs.toList=true)(ae:afz P.funcs.toList=true):y_ P:=by
 refine⟨U,λfn jp=> ?_,λf fn c ak aS=> ?_⟩
 ·have:=List.all_eq_true.1 aa fn (Array.mem_toList_iff.2 jp);simpa using this
 ·have:=List.all_eq_true.1 ae fn (Array.mem_toList_iff.2 (Array.mem_of_getElem? ak));simpa [aS] using this
set_option maxRecDepth 1000000
theorem G8:y_ P:=adY ad ad ad
end Go.Proofs.YtghmbpmaafnodaaGreatDoor
