/-
  Texts of one proof, laid together: Fv17 Fv21 Fv22 Fv23 Fv24 Base Fv25 Pk.
-/
import Derived.Test.YtghmbpmaafnodaaGreatDoorMC
import Derived.Test.YtghmbpmaafnodaaGreatDoorProg
import Derived.KernelRfl
import Derived.Lib.Fields
import Derived.Lib.AtoiAll
import Derived.Lib.Bytealg
import Derived.Lib.Space
set_option linter.unusedVariables false
set_option linter.unusedSimpArgs false
namespace Go.Ev
def seqRun (P : Program) (call : CallT) (ops : Array Oper) : List Oper → Regs → AHeap → Option (Regs × AHeap)
  | [], R, H => some (R, H)
  | o :: os, R, H => match kind1 P call ops o R H with
    | none => none
    | some k => match R.put o.dst k.val with
      | none => none
      | some R' => seqRun P call ops os R' (k.heap H)
def acts (o : Oper) : Bool := match cls o.op with
  | .write => true
  | .call => true
  | _ => false
def need (m : Nat) (done : Nat) : List Nat → List Nat
  | [] => []
  | j :: js => if m.testBit j && !done.testBit j then j :: need m done js else need m done js
def setAll (done : Nat) : List Nat → Nat
  | [] => done
  | j :: js => setAll (done ||| 2 ^ j) js
def orderGo (ms all : List Nat) : List (Nat × Oper) → Nat → List Nat
  | [], done => need (2 ^ all.length - 1) done all
  | (i, o) :: is, done => if acts o && !done.testBit i then
      (let js := need (ms[i]?.getD 0) done all
       js ++ i :: orderGo ms all is (setAll done js ||| 2 ^ i))
    else orderGo ms all is done
def zipFrom : Nat → List Oper → List (Nat × Oper)
  | _, [] => []
  | i, o :: os => (i, o) :: zipFrom (i + 1) os
def order (ops : Array Oper) : List Nat := orderGo (masks ops) (List.range ops.size) (zipFrom 0 ops.toList) 0
def regRun (P : Program) (call : CallT) (ops : Array Oper) (draw : Bool) (R : Regs) (H : AHeap) : Option (Regs × AHeap) :=
  match draw with
  | false => seqRun P call ops ops.toList R H
  | true => match canRun P call ops (order ops) R H with
    | none => none
    | some (T, R', H') => match effOk (masks ops) T [] with
      | false => none
      | true => match winsOk P (masks ops) (tied ops (masks ops) (order ops)) T H T with
        | false => none
        | true => some (R', H')
def plansOk : Code → Bool
  | .region _ ops true => planOk ops (masks ops) (order ops)
  | .seq a b => plansOk a && plansOk b
  | .cond _ a b => plansOk a && plansOk b
  | .block _ b => plansOk b
  | .loop b => plansOk b
  | _ => true
inductive Ex where
  | normal
  | exit (id : Nat)
  | ret
def Ex.exit' : Ex → Exit
  | .normal => .normal
  | .exit id => .exit id
  | .ret => .ret
abbrev RegT := Array Oper → Bool → Regs → AHeap → Option (Regs × AHeap)
def iter (f : Regs → AHeap → Option (Ex × Regs × AHeap)) : Nat → Regs → AHeap → Option (Ex × Regs × AHeap)
  | 0, _, _ => none
  | n + 1, R, H => match f R H with
    | some (.normal, R', H') => iter f n R' H'
    | r => r
def evCode (reg : RegT) (N : Nat) : Code → Regs → AHeap → Option (Ex × Regs × AHeap)
  | .skip, R, H => some (.normal, R, H)
  | .region _ ops d, R, H => match reg ops d R H with
    | some (R', H') => some (.normal, R', H')
    | none => none
  | .seq a b, R, H => match evCode reg N a R H with
    | some (.normal, R', H') => evCode reg N b R' H'
    | r => r
  | .cond c a b, R, H => match aval R c with
    | some (.bool true) => evCode reg N a R H
    | some (.bool false) => evCode reg N b R H
    | _ => none
  | .block id b, R, H => match evCode reg N b R H with
    | some (.exit id', R', H') => if id' = id then some (.normal, R', H') else some (.exit id', R', H')
    | r => r
  | .loop b, R, H => iter (fun R H => evCode reg N b R H) N R H
  | .exit id, R, H => some (.exit id, R, H)
  | .ret, R, H => some (.ret, R, H)
  | .label _, R, H => some (.normal, R, H)
  | _, _, _ => none
def Regs.ofGo (t : Tr AV) : Nat → List AV → Tr AV
  | _, [] => t
  | i, v :: vs => Regs.ofGo (Tr.put v (i + 1) t i) (i + 1) vs
def Regs.enter (n : Nat) (args : List AV) : Regs := ⟨Regs.ofGo .leaf 0 args, args.length + (n - args.length)⟩
def ares1 (P : Program) (R : Regs) (H : AHeap) : ResultVar → Option AV
  | .tmp t => some (R.get t)
  | .cell a t => aload P H t (R.get a)
def ares (P : Program) (R : Regs) (H : AHeap) : List ResultVar → Option (List AV)
  | [] => some []
  | r :: rs => match ares1 P R H r, ares P R H rs with
    | some v, some vs => some (v :: vs)
    | _, _ => none
def aone : List AV → AV
  | [v] => v
  | vs => .tuple vs
def ev (P : Program) (orc : CallT) (N : Nat) : Nat → CallT
  | 0, _, _, _ => none
  | n + 1, f, args, H => match orc f args H with
  | some r => some r
  | none => match P.funcs[f]? with
    | none => none
    | some fn => match fn.body with
      | none => none
      | some c => match evCode (regRun P (ev P orc N n)) N c (Regs.enter fn.ntmps args) H with
        | none => none
        | some (ex, R, H') => match ex with
          | .exit _ => none
          | _ => match ares P R H' fn.results.toList with
            | none => none
            | some vs => some (aone vs, H')
section
variable {E : Env} {P : Program} {orc : CallT} {call : CallT} {reg : RegT} {N : Nat}
theorem seqRun_mono {ops : Array Oper} : ∀ {os : List Oper} {R R' : Regs} {H H' : AHeap}, seqRun P call ops os R H = some (R', H') → H.next ≤ H'.next
  | [], R, R', H, H', h => by
    simp only [seqRun, Option.some.injEq, Prod.mk.injEq] at h
    obtain ⟨rfl, rfl⟩ := h; exact Nat.le_refl _
  | o :: os, R, R', H, H', h => by
    simp only [seqRun] at h
    split at h
    · cases h
    · rename_i k hk
      split at h
      · cases h
      · exact Nat.le_trans (kind1_mono hk) (seqRun_mono h)
def RegMono (reg : RegT) : Prop := ∀ ops d R H R' H', reg ops d R H = some (R', H') → H.next ≤ H'.next
theorem regRun_mono : RegMono (regRun P call) := by
  intro ops d R H R' H' h
  unfold regRun at h
  split at h
  · exact seqRun_mono h
  · split at h
    · cases h
    · rename_i T R1 H1 hc
      split at h
      · cases h
      · split at h
        · cases h
        · simp only [Option.some.injEq, Prod.mk.injEq] at h
          obtain ⟨rfl, rfl⟩ := h
          rw [(canRun_regs hc).2.1]; exact (canRun_mono hc).le
theorem iter_mono {f : Regs → AHeap → Option (Ex × Regs × AHeap)} (hf : ∀ R H ex R' H', f R H = some (ex, R', H') → H.next ≤ H'.next) : ∀ {n : Nat} {R : Regs} {H : AHeap} {ex : Ex} {R' : Regs} {H' : AHeap},
    iter f n R H = some (ex, R', H') → H.next ≤ H'.next
  | 0, _, _, _, _, _, h => by cases h
  | n + 1, R, H, ex, R', H', h => by
    simp only [iter] at h
    split at h
    · rename_i R1 H1 h1; exact Nat.le_trans (hf _ _ _ _ _ h1) (iter_mono hf h)
    · exact hf _ _ _ _ _ h
theorem evCode_mono (hreg : RegMono reg) : ∀ (c : Code) {R : Regs} {H : AHeap} {ex : Ex} {R' : Regs} {H' : AHeap}, evCode reg N c R H = some (ex, R', H') → H.next ≤ H'.next := by
  intro c
  induction c with
  | skip => intro R H ex R' H' h; simp only [evCode, Option.some.injEq, Prod.mk.injEq] at h; obtain ⟨_, _, rfl⟩ := h; exact Nat.le_refl _
  | region id ops d =>
    intro R H ex R' H' h
    simp only [evCode] at h
    split at h
    · rename_i R1 H1 h1
      simp only [Option.some.injEq, Prod.mk.injEq] at h; obtain ⟨_, _, rfl⟩ := h
      exact hreg _ _ _ _ _ _ h1
    · cases h
  | seq a b iha ihb =>
    intro R H ex R' H' h
    simp only [evCode] at h
    split at h
    · rename_i R1 H1 h1; exact Nat.le_trans (iha h1) (ihb h)
    · exact iha h
  | cond c a b iha ihb =>
    intro R H ex R' H' h
    simp only [evCode] at h
    split at h
    · exact iha h
    · exact ihb h
    · cases h
  | block id b ih =>
    intro R H ex R' H' h
    simp only [evCode] at h
    split at h
    · rename_i id' R1 H1 h1
      have := ih h1
      split at h <;> (simp only [Option.some.injEq, Prod.mk.injEq] at h; obtain ⟨_, _, rfl⟩ := h; exact this)
    · exact ih h
  | loop b ih =>
    intro R H ex R' H' h
    simp only [evCode] at h
    exact iter_mono (fun _ _ _ _ _ h => ih h) h
  | exit id => intro R H ex R' H' h; simp only [evCode, Option.some.injEq, Prod.mk.injEq] at h; obtain ⟨_, _, rfl⟩ := h; exact Nat.le_refl _
  | ret => intro R H ex R' H' h; simp only [evCode, Option.some.injEq, Prod.mk.injEq] at h; obtain ⟨_, _, rfl⟩ := h; exact Nat.le_refl _
  | label l => intro R H ex R' H' h; simp only [evCode, Option.some.injEq, Prod.mk.injEq] at h; obtain ⟨_, _, rfl⟩ := h; exact Nat.le_refl _
  | goto l => intro R H ex R' H' h; cases h
  | scope b ih => intro R H ex R' H' h; cases h
  | rangeFunc f ps a b iha ihb => intro R H ex R' H' h; cases h
  | refuse y => intro R H ex R' H' h; cases h
theorem seqRun_sound (hcall : CallOk E P call) {ops : Array Oper} {Q : Exit → Act → World → Prop} : ∀ {os : List Oper} {R R' : Regs} {H H' : AHeap} {ρ : Env} {w : World} {a : Act}, seqRun P call ops os R H = some (R', H') →
    Rel ρ H w → Fresh E ρ H.next H'.next → RRel ρ R a → (∀ ρ' a' w', RRel ρ' R' a' → Step ρ H w ρ' H' w' → Q .normal a' w') → wpList P ops Q os a w
  | [], R, R', H, H', ρ, w, a, h, hR, _, hr, hQ => by
    simp only [seqRun, Option.some.injEq, Prod.mk.injEq] at h
    obtain ⟨rfl, rfl⟩ := h
    exact hQ ρ a w hr (.refl hR)
  | o :: os, R, R', H, H', ρ, w, a, h, hR, hf, hr, hQ => by
    simp only [seqRun] at h
    split at h
    · cases h
    · rename_i k hk
      split at h
      · cases h
      · rename_i R1 hR1
        have hmono := seqRun_mono h
        have hkm := kind1_mono hk
        have go : ∀ x w' ρ', VRel ρ' k.val x → Step ρ H w ρ' (k.heap H) w' → wpList P ops Q os (a.put o.dst x) w' := fun x w' ρ' hx hs =>
          seqRun_sound hcall h hs.rel (hf.after hs) ((hr.mono hs.le).put hR1 hx) fun ρ2 a2 w2 h1 h2 => hQ ρ2 a2 w2 h1 (hs.trans h2)
        unfold wpList
        rw [awanted_sound hr o]
        rcases kind1_ok hk with ⟨hw, hk1⟩ | ⟨hw, rfl⟩
        · rw [hw]
          simp only [if_true]
          refine .inl ?_
          cases k with
          | skip => exact hk1.elim
          | pure v => exact pure_wp hk1 hr fun x hx => go x w ρ hx (.refl hR)
          | read v => exact read_wp hR hk1 hr fun x hx => go x w ρ hx (.refl hR)
          | new v b =>
            have hfn : ρ H.next = none := hf.new _ (Nat.le_refl _) (by simp only [K.heap, AHeap.next_push] at hmono; omega)
            refine new_wp hk1 hr hfn fun x w' ρ' loc q1 q2 q3 q4 q5 q6 q7 q8 q9 q10 q11 q12 => go x w' ρ' q1 ?_
            have m0 : Mid ρ H w (H.next + 1) (fun _ => none) ρ H w := Mid.start hR fun l h1 h2 => by
              have : l = H.next := by omega
              rw [this]; exact hfn
            have m1 := m0.early (Nat.le_refl _) (by omega) rfl q2 q3 q4 q5 q6 q7 q8 q9 q10 q11 q12
            exact (m1.turn (b := b) (by simp)).done rfl
          | eff v H2 =>
            exact eff_wp hcall hR (hf.left hmono) hk1 hr fun x w' ρ' h1 h2 => go x w' ρ' h1 h2
        · rw [hw]
          simp only [Bool.false_eq_true, if_false]
          exact go undef w ρ (.tuple [] [] .nil) (.refl hR)
def RegOk (E : Env) (P : Program) (reg : RegT) : Prop := ∀ (id : Nat) (ops : Array Oper) (d : Bool) (R : Regs) (H : AHeap) (R' : Regs) (H' : AHeap), reg ops d R H = some (R', H') → (d = true → planOk ops (masks ops) (order ops) = true) →
  ∀ (ρ : Env) (w : World) (a : Act) (Q : Exit → Act → World → Prop), Rel ρ H w → Fresh E ρ H.next H'.next → RRel ρ R a → (∀ ρ' a' w', RRel ρ' R' a' → Step ρ H w ρ' H' w' → Q .normal a' w') → (Code.region id ops d).wp P Q a w
theorem regRun_sound (hm : P.follows .mixedOrders = true) (hcall : CallOk E P call) : RegOk E P (regRun P call) := by
  intro id ops d R H R' H' h hd ρ w a Q hR hf hr hQ
  unfold regRun at h
  split at h
  · exact wp_region_list (seqRun_sound hcall h hR hf hr hQ)
  · split at h
    · cases h
    · rename_i T R1 H1 hc
      split at h
      · cases h
      · rename_i heff
        split at h
        · cases h
        · rename_i hwin
          simp only [Option.some.injEq, Prod.mk.injEq] at h
          obtain ⟨rfl, rfl⟩ := h
          exact wp_drawn hm hcall ⟨hc, hd rfl, heff, hwin⟩ hR hf hr hQ
theorem wp_loop_iter {c : Code} {Q : Exit → Act → World → Prop} (J : Nat → Act → World → Prop) (round : ∀ n a w, J n a w → ∃ m, n = m + 1 ∧ c.wp P (Exit.then (J m) Q) a w) {n : Nat} {a : Act} {w : World} (h₀ : J n a w) : (Code.loop c).wp P Q a w := by
  intro b k cs
  have key : ∀ n a w, J n a w → ∃ e a' w', Q e a' w' ∧ Arrives P (lone (b.at a (.code c :: .inLoop c :: k)) cs w) b k cs e a' w' := by
    intro n
    induction n with
    | zero => intro a w h; obtain ⟨m, hm, _⟩ := round 0 a w h; omega
    | succ n ih =>
      intro a w h
      obtain ⟨m, hm, hw⟩ := round _ a w h
      obtain rfl : m = n := by omega
      obtain ⟨e, a₁, w₁, hq, harr⟩ := hw b (.inLoop c :: k) cs
      cases e with
      | normal =>
        obtain ⟨e₂, a₂, w₂, hq₂, harr₂⟩ := ih a₁ w₁ hq
        exact ⟨e₂, a₂, w₂, hq₂, .of_steps (Steps.trans harr (.one step_inLoop)) harr₂⟩
      | exit id => exact ⟨_, a₁, w₁, hq, .pass (x := .inLoop c) rfl (fun _ _ => .inl (by simp)) harr⟩
      | goto l => exact ⟨_, a₁, w₁, hq, .pass (x := .inLoop c) rfl (fun _ _ => .inl (by simp)) harr⟩
      | ret => exact ⟨_, a₁, w₁, hq, .pass (x := .inLoop c) rfl (fun _ _ => .inl (by simp)) harr⟩
      | panic ch => exact ⟨_, a₁, w₁, hq, .pass (x := .inLoop c) rfl (fun _ _ => .inl (by simp)) harr⟩
      | outgrown => exact ⟨_, a₁, w₁, hq, .pass (x := .inLoop c) rfl (fun _ _ => .inl (by simp)) harr⟩
  obtain ⟨e, a', w', hq, harr⟩ := key _ a w h₀
  exact ⟨e, a', w', hq, .of_steps (.one step_loop) harr⟩
def CodeOk (E : Env) (P : Program) (c : Code) (f : Regs → AHeap → Option (Ex × Regs × AHeap)) : Prop := ∀ (R : Regs) (H : AHeap) (ex : Ex) (R' : Regs) (H' : AHeap), f R H = some (ex, R', H') →
  ∀ (ρ : Env) (w : World) (a : Act) (Q : Exit → Act → World → Prop), Rel ρ H w → Fresh E ρ H.next H'.next → RRel ρ R a → (∀ ρ' a' w', RRel ρ' R' a' → Step ρ H w ρ' H' w' → Q ex.exit' a' w') → c.wp P Q a w
theorem iter_sound {c : Code} {f : Regs → AHeap → Option (Ex × Regs × AHeap)} (hf : CodeOk E P c f) (hmono : ∀ R H ex R' H', f R H = some (ex, R', H') → H.next ≤ H'.next) (n : Nat) : CodeOk E P (.loop c) (iter f n) := by
  intro R H ex R' H' h ρ w a Q hR hfr hr hQ
  refine wp_loop_iter (n := n) (fun n a1 w1 => ∃ R1 H1 ρ1, iter f n R1 H1 = some (ex, R', H') ∧ Step ρ H w ρ1 H1 w1 ∧ RRel ρ1 R1 a1) ?_ ⟨R, H, ρ, h, .refl hR, hr⟩
  rintro n a1 w1 ⟨R1, H1, ρ1, h1, hs, hr1⟩
  cases n with
  | zero => cases h1
  | succ n =>
    refine ⟨n, rfl, ?_⟩
    have hle := iter_mono hmono h1
    simp only [iter] at h1
    split at h1
    · rename_i R2 H2 h2
      have hle2 := iter_mono hmono h1
      refine hf _ _ _ _ _ h2 ρ1 w1 a1 _ hs.rel (Fresh.left (Fresh.after hfr hs) hle2) hr1 fun ρ2 a2 w2 g1 g2 => ?_
      exact ⟨R2, H2, ρ2, h1, hs.trans g2, g1⟩
    · rename_i hne
      refine hf _ _ _ _ _ h1 ρ1 w1 a1 _ hs.rel (Fresh.after hfr hs) hr1 fun ρ2 a2 w2 g1 g2 => ?_
      have := hQ ρ2 a2 w2 g1 (hs.trans g2)
      cases ex with
      | normal => exact absurd h1 (hne _ _)
      | exit id => exact this
      | ret => exact this
theorem evCode_sound (hmono : RegMono reg) (hreg : RegOk E P reg) : ∀ (c : Code), plansOk c = true → CodeOk E P c (evCode reg N c) := by
  intro c
  induction c with
  | skip =>
    intro _ R H ex R' H' h ρ w a Q hR hf hr hQ
    simp only [evCode, Option.some.injEq, Prod.mk.injEq] at h; obtain ⟨rfl, rfl, rfl⟩ := h
    exact wp_skip (hQ ρ a w hr (.refl hR))
  | region id ops d =>
    intro hp R H ex R' H' h ρ w a Q hR hf hr hQ
    simp only [evCode] at h
    split at h
    · rename_i R1 H1 h1
      simp only [Option.some.injEq, Prod.mk.injEq] at h; obtain ⟨rfl, rfl, rfl⟩ := h
      exact hreg id ops d R H _ _ h1 (fun hd => by subst hd; exact hp) ρ w a Q hR hf hr hQ
    · cases h
  | seq x y iha ihb =>
    intro hp R H ex R' H' h ρ w a Q hR hf hr hQ
    simp only [plansOk, Bool.and_eq_true] at hp
    simp only [evCode] at h
    refine wp_seq ?_
    split at h
    · rename_i R1 H1 h1
      have hle := evCode_mono hmono y h
      refine iha hp.1 _ _ _ _ _ h1 ρ w a _ hR (hf.left hle) hr fun ρ1 a1 w1 g1 g2 => ?_
      exact ihb hp.2 _ _ _ _ _ h ρ1 w1 a1 Q g2.rel (hf.after g2) g1 fun ρ2 a2 w2 g3 g4 => hQ ρ2 a2 w2 g3 (g2.trans g4)
    · rename_i hne
      refine iha hp.1 _ _ _ _ _ h ρ w a _ hR hf hr fun ρ1 a1 w1 g1 g2 => ?_
      have := hQ ρ1 a1 w1 g1 g2
      cases ex with
      | normal => exact absurd h (hne _ _)
      | exit id => exact this
      | ret => exact this
  | cond c x y iha ihb =>
    intro hp R H ex R' H' h ρ w a Q hR hf hr hQ
    simp only [plansOk, Bool.and_eq_true] at hp
    simp only [evCode] at h
    split at h
    · rename_i hc
      have h1 := aval_sound hr hc
      refine wp_cond_true (by generalize a.eval c = z at h1; cases h1; rfl) ?_
      exact iha hp.1 _ _ _ _ _ h ρ w a Q hR hf hr hQ
    · rename_i hc
      have h1 := aval_sound hr hc
      refine wp_cond_false (by generalize a.eval c = z at h1; cases h1; rfl) ?_
      exact ihb hp.2 _ _ _ _ _ h ρ w a Q hR hf hr hQ
    · cases h
  | block id b ih =>
    intro hp R H ex R' H' h ρ w a Q hR hf hr hQ
    simp only [evCode] at h
    refine wp_block ?_
    split at h
    · rename_i id' R1 H1 h1
      split at h
      · rename_i hid
        simp only [Option.some.injEq, Prod.mk.injEq] at h; obtain ⟨rfl, rfl, rfl⟩ := h
        refine ih hp _ _ _ _ _ h1 ρ w a _ hR hf hr fun ρ1 a1 w1 g1 g2 => ?_
        have := hQ ρ1 a1 w1 g1 g2
        simp only [Ex.exit', Exit.inBlock, hid, if_true]; exact this
      · rename_i hid
        simp only [Option.some.injEq, Prod.mk.injEq] at h; obtain ⟨rfl, rfl, rfl⟩ := h
        refine ih hp _ _ _ _ _ h1 ρ w a _ hR hf hr fun ρ1 a1 w1 g1 g2 => ?_
        have := hQ ρ1 a1 w1 g1 g2
        simp only [Ex.exit', Exit.inBlock, hid, if_false]; exact this
    · rename_i hne
      refine ih hp _ _ _ _ _ h ρ w a _ hR hf hr fun ρ1 a1 w1 g1 g2 => ?_
      have := hQ ρ1 a1 w1 g1 g2
      cases ex with
      | normal => exact this
      | exit id' => exact absurd h (hne _ _ _)
      | ret => exact this
  | loop b ih =>
    intro hp R H ex R' H' h ρ w a Q hR hf hr hQ
    simp only [evCode] at h
    exact iter_sound (ih hp) (fun _ _ _ _ _ h => evCode_mono hmono b h) N R H ex R' H' h ρ w a Q hR hf hr hQ
  | exit id =>
    intro _ R H ex R' H' h ρ w a Q hR hf hr hQ
    simp only [evCode, Option.some.injEq, Prod.mk.injEq] at h; obtain ⟨rfl, rfl, rfl⟩ := h
    exact wp_exit (hQ ρ a w hr (.refl hR))
  | ret =>
    intro _ R H ex R' H' h ρ w a Q hR hf hr hQ
    simp only [evCode, Option.some.injEq, Prod.mk.injEq] at h; obtain ⟨rfl, rfl, rfl⟩ := h
    exact wp_ret (hQ ρ a w hr (.refl hR))
  | label l =>
    intro _ R H ex R' H' h ρ w a Q hR hf hr hQ
    simp only [evCode, Option.some.injEq, Prod.mk.injEq] at h; obtain ⟨rfl, rfl, rfl⟩ := h
    exact wp_label (hQ ρ a w hr (.refl hR))
  | goto l => intro _ R H ex R' H' h; cases h
  | scope b ih => intro _ R H ex R' H' h; cases h
  | rangeFunc f ps a b iha ihb => intro _ R H ex R' H' h; cases h
  | refuse y => intro _ R H ex R' H' h; cases h
theorem ofGo_get : ∀ (args : List AV) (t : Tr AV) (i d : Nat), (Regs.ofGo t i args).get d = if i ≤ d ∧ d < i + args.length then args[d - i]? else t.get d
  | [], t, i, d => by simp only [Regs.ofGo, List.length_nil]; rw [if_neg (by omega)]
  | v :: vs, t, i, d => by
    simp only [Regs.ofGo]
    rw [ofGo_get vs]
    by_cases h1 : i + 1 ≤ d ∧ d < i + 1 + vs.length
    · rw [if_pos h1, if_pos (by simp; omega), show d - i = (d - (i + 1)) + 1 by omega]; simp
    · rw [if_neg h1]
      by_cases h2 : d = i
      · subst h2
        rw [Tr.get_put_same _ _ _ _ (by omega), if_pos (by simp)]; simp
      · rw [Tr.get_put_other _ _ _ _ _ (Ne.symm h2), if_neg (by simp; omega)]
theorem enter_rel {ρ : Env} {args : List AV} {xs : List Value} (h : VRels ρ args xs) (n : Nat) : RRel ρ (Regs.enter n args) { tmps := xs.toArray ++ Array.replicate (n - xs.toArray.size) undef, defers := [] } := by
  have hl := h.length
  refine ⟨by simp [Regs.enter, hl], fun d => ?_, rfl⟩
  unfold Regs.get Regs.enter
  simp only
  rw [ofGo_get]
  rw [Array.getD_eq_getD_getElem?]
  by_cases hd : d < args.length
  · rw [if_pos (by omega)]
    obtain ⟨v, hv⟩ : ∃ v, args[d]? = some v := ⟨args[d], by simp [hd]⟩
    obtain ⟨x, hx, hvx⟩ := h.get d v hv
    have h1 : (xs.toArray ++ Array.replicate (n - xs.toArray.size) undef)[d]? = some x := by
      rw [Array.getElem?_append_left (by simp; omega)]; simpa using hx
    rw [h1]
    simp only [Nat.sub_zero, hv, Option.getD_some]; exact hvx
  · rw [if_neg (by omega)]
    have h1 : ((xs.toArray ++ Array.replicate (n - xs.toArray.size) undef)[d]?).getD undef = undef := by
      rw [Array.getElem?_append_right (by simp; omega)]
      simp only [Array.getElem?_replicate]
      split <;> rfl
    rw [h1, Tr.get_leaf]; exact .tuple [] [] .nil
def resSem (tmps : Array Value) : ResultVar → Sem Value
  | .tmp t => pure (tmps.getD t undef)
  | .cell b t => do loadVar t (← asAddr (tmps.getD b undef))
theorem ares1_sound {ρ : Env} {H : AHeap} {w : World} {R : Regs} {a : Act} (hR : Rel ρ H w) (hr : RRel ρ R a) {r : ResultVar} {v : AV} (h : ares1 P R H r = some v) :
    ∃ x, (resSem a.tmps r).run P w = .ok x w ∧ VRel ρ v x := by
  cases r with
  | tmp t =>
    simp only [ares1, Option.some.injEq] at h; subst h
    exact ⟨_, rfl, hr.get t⟩
  | cell b t =>
    simp only [ares1] at h
    obtain ⟨x, e1, e2⟩ := aload_sound hR h (hr.get b)
    refine ⟨x, ?_, e2⟩
    have h2 := hr.get b
    simp only [resSem]
    generalize a.tmps.getD b undef = z at h2 e1 ⊢
    have hp : ∃ l i c, R.get b = .ptr l i c := by
      generalize R.get b = u at h
      unfold aload at h
      cases u <;> first | exact ⟨_, _, _, rfl⟩ | (exfalso; simp at h)
    obtain ⟨l, i, c, hp⟩ := hp
    rw [hp] at h2
    cases h2
    simpa [Instr.loadAt, Instr.sureAddr, asAddr] using e1
theorem ares_sound {ρ : Env} {H : AHeap} {w : World} {R : Regs} {a : Act} (hR : Rel ρ H w) (hr : RRel ρ R a) : ∀ {rs : List ResultVar} {vs : List AV}, ares P R H rs = some vs →
    ∃ xs : List Value, (rs.mapM (resSem a.tmps)).run P w = .ok xs w ∧ VRels ρ vs xs
  | [], vs, h => by simp only [ares, Option.some.injEq] at h; subst h; exact ⟨[], by simp [Sem.run_pure], .nil⟩
  | r :: rs, vs, h => by
    simp only [ares] at h
    split at h
    · rename_i v vs' hv hvs
      simp only [Option.some.injEq] at h; subst h
      obtain ⟨x, e1, e2⟩ := ares1_sound hR hr hv
      obtain ⟨xs, e3, e4⟩ := ares_sound hR hr hvs
      refine ⟨x :: xs, ?_, .cons _ _ _ _ e2 e4⟩
      rw [List.mapM_cons]
      simp only [Sem.run_bind, Result.andThen_ok, Sem.run_pure, e1, e3]
    · cases h
theorem results_eq (fn : Func) (tmps : Array Value) : results fn tmps = (do
    let vs ← fn.results.mapM (resSem tmps)
    pure (if h : vs.size = 1 then vs[0] else .tuple vs)) := by
  unfold results
  congr 1
theorem results_sound {ρ : Env} {H : AHeap} {w : World} {R : Regs} {a : Act} (hR : Rel ρ H w) (hr : RRel ρ R a) {fn : Func} {vs : List AV} (h : ares P R H fn.results.toList = some vs) :
    ∃ x, (results fn a.tmps).run P w = .ok x w ∧ VRel ρ (aone vs) x := by
  obtain ⟨xs, e1, e2⟩ := ares_sound hR hr h
  have hm : (fn.results.mapM (resSem a.tmps)).run P w = .ok xs.toArray w := by
    rw [Array.mapM_eq_mapM_toList]; simp only [Sem.run_map, e1, Result.andThen_ok]
  refine ⟨if h : xs.toArray.size = 1 then xs.toArray[0] else .tuple xs.toArray, ?_, ?_⟩
  · rw [results_eq]
    simp only [Sem.run_bind, hm, Result.andThen_ok, Sem.run_pure]
  · cases e2 with
    | nil => exact .tuple [] [] .nil
    | cons v x vs' xs' h1 h2 =>
      cases h2 with
      | nil => exact h1
      | cons v' x' vs'' xs'' h3 h4 =>
        simp only [aone]
        rw [dif_neg (by simp)]
        exact .tuple _ _ (.cons _ _ _ _ h1 (.cons _ _ _ _ h3 h4))
structure ProgOk (P : Program) : Prop where
  mixed : P.follows .mixedOrders = true
  names : ∀ fn ∈ P.funcs, (fn.name == "runtime.NumGoroutine") = false
  plans : ∀ (f : Nat) (fn : Func) (c : Code), P.funcs[f]? = some fn → fn.body = some c → plansOk c = true
theorem ev_ok (hP : ProgOk P) (hO : CallOk E P orc) : ∀ n, CallOk E P (ev P orc N n)
  | 0 => fun g args H v H' h => by cases h
  | n + 1 => by
    intro g args H v H' h ρ w xs hR hf hargs hn next hnext
    simp only [ev] at h
    split at h
    · rename_i r hr
      cases h
      exact hO g args H v H' hr ρ w xs hR hf hargs hn next hnext
    split at h
    · cases h
    · rename_i fn hfn
      split at h
      · cases h
      · rename_i c hc
        split at h
        · cases h
        · rename_i ex R H1 hev
          have ihc := ev_ok hP hO n
          have hcode := evCode_sound (N := N) regRun_mono (regRun_sound hP.mixed ihc) c (hP.plans _ _ _ hfn hc)
          have hname : (fn.name == "runtime.NumGoroutine") = false := hP.names fn (Array.mem_of_getElem? hfn)
          have hrun : (callFunc g xs.toArray).run P w = .ok (.enter g xs.toArray) w := by
            unfold callFunc
            simp [hfn, hc]
            intro hh
            simp [hh] at hname
          unfold Upon
          rw [hrun]
          simp only
          split at h
          · cases h
          · rename_i hne
            split at h
            · cases h
            · rename_i vs hvs
              simp only [Option.some.injEq, Prod.mk.injEq] at h
              obtain ⟨rfl, rfl⟩ := h
              refine calls_of_wp hfn hc (hcode _ _ _ _ _ hev ρ w _ _ hR hf (enter_rel hargs fn.ntmps) fun ρ' a' w' h1 h2 => ?_)
              obtain ⟨x, e1, e2⟩ := results_sound h2.rel h1 hvs
              have hnx := hnext x w' ρ' e2 h2
              cases ex with
              | normal => exact ⟨h1.none, x, e1, hnx⟩
              | ret => exact ⟨h1.none, x, e1, hnx⟩
              | exit id => exact absurd rfl (hne id)
end
end Go.Ev

namespace Go.Ev
section
variable {E : Env} {P : Program} {orc : CallT}
def Lim (P : Program) (orc : CallT) (f : Nat) (args : List AV) (H : AHeap) (r : AV × AHeap) : Prop := ∃ k, ∀ N, k ≤ N → ∀ n, k ≤ n → ev P orc N n f args H = some r
theorem Lim.uniq {f : Nat} {args : List AV} {H : AHeap} {r s : AV × AHeap} (h : Lim P orc f args H r) (h' : Lim P orc f args H s) : r = s := by
  obtain ⟨k, hk⟩ := h
  obtain ⟨j, hj⟩ := h'
  have h1 := hk (max k j) (Nat.le_max_left ..) (max k j) (Nat.le_max_left ..)
  rw [hj (max k j) (Nat.le_max_right ..) (max k j) (Nat.le_max_right ..)] at h1
  exact (Option.some.inj h1).symm
open Classical in
noncomputable def evw (P : Program) (orc : CallT) : CallT := fun f args H => if h : ∃ r, Lim P orc f args H r then some h.choose else none
theorem evw_lim {f : Nat} {args : List AV} {H : AHeap} {r : AV × AHeap} (h : evw P orc f args H = some r) : Lim P orc f args H r := by
  unfold evw at h
  split at h
  · rename_i hx
    rw [← Option.some.inj h]; exact hx.choose_spec
  · cases h
theorem lim_evw {f : Nat} {args : List AV} {H : AHeap} {r : AV × AHeap} (h : Lim P orc f args H r) : evw P orc f args H = some r := by
  unfold evw
  have hx : ∃ r, Lim P orc f args H r := ⟨r, h⟩
  rw [dif_pos hx]
  exact congrArg some (hx.choose_spec.uniq h)
theorem evw_ok (hP : ProgOk P) (hO : CallOk E P orc) : CallOk E P (evw P orc) := by
  intro g args H v H' h
  obtain ⟨k, hk⟩ := evw_lim h
  exact ev_ok hP hO k g args H v H' (hk k (Nat.le_refl _) k (Nat.le_refl _))
theorem step1_cont {o : Op} {R : Regs} {H : AHeap} {x : K} (h : step1 P (evw P orc) o R H = some x) : ∃ k, ∀ N, k ≤ N → ∀ n, k ≤ n → step1 P (ev P orc N n) o R H = some x := by
  unfold step1 at h
  unfold step1
  split at h
  · exact ⟨0, fun _ _ _ _ => h⟩
  · exact ⟨0, fun _ _ _ _ => h⟩
  · exact ⟨0, fun _ _ _ _ => h⟩
  · exact ⟨0, fun _ _ _ _ => h⟩
  · exact ⟨0, fun _ _ _ _ => h⟩
  · split at h
    · split at h
      · rename_i g vs hc
        cases hcall : evw P orc g vs H with
        | none => rw [hcall] at h; cases h
        | some r =>
          obtain ⟨k, hk⟩ := evw_lim hcall
          refine ⟨k, fun N hN n hn => ?_⟩
          rw [hcall] at h
          simp only [hc, hk N hN n hn]; exact h
      · cases h
    · cases h
theorem kind1_cont {ops : Array Oper} {o : Oper} {R : Regs} {H : AHeap} {x : K} (h : kind1 P (evw P orc) ops o R H = some x) : ∃ k, ∀ N, k ≤ N → ∀ n, k ≤ n → kind1 P (ev P orc N n) ops o R H = some x := by
  unfold kind1 at h
  unfold kind1
  split at h
  · rename_i hw
    obtain ⟨k, hk⟩ := step1_cont h
    exact ⟨k, fun N hN n hn => hk N hN n hn⟩
  · exact ⟨0, fun _ _ _ _ => h⟩
theorem seqRun_cont {ops : Array Oper} : ∀ {os : List Oper} {R : Regs} {H : AHeap} {x : Regs × AHeap}, seqRun P (evw P orc) ops os R H = some x → ∃ k, ∀ N, k ≤ N → ∀ n, k ≤ n → seqRun P (ev P orc N n) ops os R H = some x
  | [], R, H, x, h => ⟨0, fun _ _ _ _ => h⟩
  | o :: os, R, H, x, h => by
    simp only [seqRun] at h
    split at h
    · cases h
    · rename_i y hy
      split at h
      · cases h
      · rename_i R' hR'
        obtain ⟨k, hk⟩ := kind1_cont hy
        obtain ⟨j, hj⟩ := seqRun_cont h
        refine ⟨max k j, fun N hN n hn => ?_⟩
        simp only [seqRun, hk N (by omega) n (by omega), hR', hj N (by omega) n (by omega)]
theorem canRun_cont {ops : Array Oper} : ∀ {is : List Nat} {R : Regs} {H : AHeap} {x : List TE × Regs × AHeap}, canRun P (evw P orc) ops is R H = some x → ∃ k, ∀ N, k ≤ N → ∀ n, k ≤ n → canRun P (ev P orc N n) ops is R H = some x
  | [], R, H, x, h => ⟨0, fun _ _ _ _ => h⟩
  | i :: is, R, H, x, h => by
    simp only [canRun] at h
    split at h
    · cases h
    · rename_i o ho
      split at h
      · cases h
      · rename_i y hy
        split at h
        · cases h
        · rename_i R' hR'
          split at h
          · cases h
          · rename_i T Rf Hf hc
            obtain ⟨k, hk⟩ := kind1_cont hy
            obtain ⟨j, hj⟩ := canRun_cont hc
            refine ⟨max k j, fun N hN n hn => ?_⟩
            simp only [canRun, ho, hk N (by omega) n (by omega), hR', hj N (by omega) n (by omega)]
            exact h
theorem regRun_cont {ops : Array Oper} {d : Bool} {R : Regs} {H : AHeap} {x : Regs × AHeap} (h : regRun P (evw P orc) ops d R H = some x) : ∃ k, ∀ N, k ≤ N → ∀ n, k ≤ n → regRun P (ev P orc N n) ops d R H = some x := by
  unfold regRun at h
  unfold regRun
  split at h
  · obtain ⟨k, hk⟩ := seqRun_cont h
    exact ⟨k, fun N hN n hn => hk N hN n hn⟩
  · split at h
    · cases h
    · rename_i T R' H' hc
      obtain ⟨k, hk⟩ := canRun_cont hc
      refine ⟨k, fun N hN n hn => ?_⟩
      simp only [hk N hN n hn]
      exact h
theorem iter_more {f : Regs → AHeap → Option (Ex × Regs × AHeap)} : ∀ {n m : Nat} {R : Regs} {H : AHeap} {x : Ex × Regs × AHeap}, iter f n R H = some x → n ≤ m → iter f m R H = some x
  | 0, _, _, _, _, h, _ => by cases h
  | n + 1, 0, _, _, _, _, hm => by omega
  | n + 1, m + 1, R, H, x, h, hm => by
    simp only [iter] at h ⊢
    split at h
    · rename_i R' H' he
      exact iter_more h (by omega)
    · exact h
theorem iter_cont {f : Regs → AHeap → Option (Ex × Regs × AHeap)} {g : Nat → Nat → Regs → AHeap → Option (Ex × Regs × AHeap)} (hf : ∀ R H x, f R H = some x → ∃ k, ∀ N, k ≤ N → ∀ n, k ≤ n → g N n R H = some x) :
    ∀ {M : Nat} {R : Regs} {H : AHeap} {x : Ex × Regs × AHeap}, iter f M R H = some x → ∃ k, ∀ N, k ≤ N → ∀ n, k ≤ n → iter (g N n) M R H = some x
  | 0, _, _, _, h => by cases h
  | M + 1, R, H, x, h => by
    simp only [iter] at h
    split at h
    · rename_i R' H' he
      obtain ⟨k, hk⟩ := hf _ _ _ he
      obtain ⟨j, hj⟩ := iter_cont hf h
      refine ⟨max k j, fun N hN n hn => ?_⟩
      simp only [iter, hk N (by omega) n (by omega)]
      exact hj N (by omega) n (by omega)
    · rename_i hne
      obtain ⟨k, hk⟩ := hf _ _ _ h
      refine ⟨k, fun N hN n hn => ?_⟩
      simp only [iter, hk N hN n hn]
      split
      · rename_i R' H' he
        cases he
        exact absurd h (hne _ _)
      · rfl
theorem evCode_cont {M : Nat} : ∀ (c : Code) {R : Regs} {H : AHeap} {x : Ex × Regs × AHeap}, evCode (regRun P (evw P orc)) M c R H = some x → ∃ k, ∀ N, k ≤ N → ∀ n, k ≤ n → evCode (regRun P (ev P orc N n)) N c R H = some x := by
  intro c
  induction c with
  | skip => intro R H x h; exact ⟨0, fun _ _ _ _ => h⟩
  | region id ops d =>
    intro R H x h
    simp only [evCode] at h
    split at h
    · rename_i R1 H1 h1
      obtain ⟨k, hk⟩ := regRun_cont h1
      refine ⟨k, fun N hN n hn => ?_⟩
      simp only [evCode, hk N hN n hn]; exact h
    · cases h
  | seq a b iha ihb =>
    intro R H x h
    simp only [evCode] at h
    split at h
    · rename_i R1 H1 h1
      obtain ⟨k, hk⟩ := iha h1
      obtain ⟨j, hj⟩ := ihb h
      refine ⟨max k j, fun N hN n hn => ?_⟩
      simp only [evCode, hk N (by omega) n (by omega), hj N (by omega) n (by omega)]
    · rename_i hne
      obtain ⟨k, hk⟩ := iha h
      refine ⟨k, fun N hN n hn => ?_⟩
      simp only [evCode, hk N hN n hn]
      split
      · rename_i R' H' he
        cases he
        exact absurd h (hne _ _)
      · rfl
  | cond c a b iha ihb =>
    intro R H x h
    simp only [evCode] at h
    split at h
    · rename_i hc
      obtain ⟨k, hk⟩ := iha h
      refine ⟨k, fun N hN n hn => ?_⟩
      simp only [evCode, hc, hk N hN n hn]
    · rename_i hc
      obtain ⟨k, hk⟩ := ihb h
      refine ⟨k, fun N hN n hn => ?_⟩
      simp only [evCode, hc, hk N hN n hn]
    · cases h
  | block id b ih =>
    intro R H x h
    simp only [evCode] at h
    split at h
    · rename_i id' R1 H1 h1
      obtain ⟨k, hk⟩ := ih h1
      refine ⟨k, fun N hN n hn => ?_⟩
      simp only [evCode, hk N hN n hn]; exact h
    · rename_i hne
      obtain ⟨k, hk⟩ := ih h
      refine ⟨k, fun N hN n hn => ?_⟩
      simp only [evCode, hk N hN n hn]
      split
      · rename_i id' R' H' he
        cases he
        exact absurd h (hne _ _ _)
      · rfl
  | loop b ih =>
    intro R H x h
    simp only [evCode] at h
    obtain ⟨k, hk⟩ := iter_cont (g := fun N n => evCode (regRun P (ev P orc N n)) N b) (fun R H x hx => ih hx) h
    refine ⟨max k M, fun N hN n hn => ?_⟩
    simp only [evCode]
    exact iter_more (hk N (by omega) n (by omega)) (by omega)
  | exit id => intro R H x h; exact ⟨0, fun _ _ _ _ => h⟩
  | ret => intro R H x h; exact ⟨0, fun _ _ _ _ => h⟩
  | label l => intro R H x h; exact ⟨0, fun _ _ _ _ => h⟩
  | goto l => intro R H x h; cases h
  | scope b ih => intro R H x h; cases h
  | rangeFunc f ps a b iha ihb => intro R H x h; cases h
  | refuse y => intro R H x h; cases h
theorem evw_intro {f : Nat} {args : List AV} {H H' : AHeap} {fn : Func} {c : Code} {M : Nat} {ex : Ex} {R : Regs} {vs : List AV} (hO : orc f args H = none) (hf : P.funcs[f]? = some fn) (hb : fn.body = some c)
    (h : evCode (regRun P (evw P orc)) M c (Regs.enter fn.ntmps args) H = some (ex, R, H')) (hex : ∀ id, ex ≠ .exit id) (hr : ares P R H' fn.results.toList = some vs) : evw P orc f args H = some (aone vs, H') := by
  obtain ⟨k, hk⟩ := evCode_cont c h
  refine lim_evw ⟨k + 1, fun N hN n hn => ?_⟩
  cases n with
  | zero => omega
  | succ n =>
    simp only [ev, hO, hf, hb, hk N (by omega) n (by omega)]
    cases ex with
    | exit id => exact absurd rfl (hex id)
    | normal => simp only [hr]
    | ret => simp only [hr]
theorem evw_orc {f : Nat} {args : List AV} {H : AHeap} {r : AV × AHeap} (h : orc f args H = some r) : evw P orc f args H = some r := by
  refine lim_evw ⟨1, fun N hN n hn => ?_⟩
  cases n with
  | zero => omega
  | succ n => simp only [ev, h]
end
end Go.Ev

namespace Go.Ev
abbrev O := Option (AV × AHeap)
abbrev Rf := Nat → AV
def upd (R : Rf) (dst : Option Nat) (v : AV) : Rf := match dst with
  | none => R
  | some d => fun e => bif Nat.beq e d then v else R e
def fval (R : Rf) : Operand → Option AV
  | .tmp t => some (R t)
  | .const v => ofVal v
  | .global _ => none
  | .func f => some (.func (.func f) [] [])
def fvals (R : Rf) : List Operand → Option (List AV)
  | [] => some []
  | x :: xs => (fval R x).bind fun v => (fvals R xs).bind fun vs => some (v :: vs)
def fparts (R : Rf) : List (Nat × Operand) → Option (List (Nat × AV))
  | [] => some []
  | (i, x) :: xs => (fval R x).bind fun v => (fparts R xs).bind fun vs => some ((i, v) :: vs)
def fvalO (R : Rf) : Option Operand → Option (Option AV)
  | none => some none
  | some x => (fval R x).bind fun v => some (some v)
def pickOf (c : AV) (a b : Option AV) : Option AV := match c with
  | .bool t => bif t then a else b
  | _ => none
def eqOk (P : Program) (t : TypeId) (c : Bool) (a b : AV) : Bool :=
  match a, b with
  | .nilIface, .nilIface => c
  | .agg _, .agg _ => !P.eqGuardType P.depth t
  | _, _ => true
def fbin (P : Program) (op : BinOp) (t : TypeId) (c : Bool) (x y : AV) : Option AV :=
  match x, y with
  | .int k a, .int k' b =>
    (match op with
    | .shl => intShift .shl k a b
    | .shr => intShift .shr k a b
    | op => if k = k' then intBin op k a b else none)
  | .str a, .str b => strBin op a b
  | x, y =>
    (match op with
    | .eql => if eqOk P t c x y then (aeqIn P 10000 t x y).map .bool else none
    | .neq => if eqOk P t c x y then (aeqIn P 10000 t x y).map fun b => .bool (!b) else none
    | _ => none)
theorem eqOk_eq (P : Program) (t : TypeId) (x y : Operand) (u v : AV) : eqOk P t (isConst x || isConst y) u v = eqFree P t x y u v := by
  unfold eqOk eqFree; cases u <;> cases v <;> rfl
theorem fbin_eq (P : Program) (op : BinOp) (t : TypeId) (x y : Operand) (u v : AV) : fbin P op t (isConst x || isConst y) u v = abin P op t x y u v := by
  unfold fbin abin
  simp only [eqOk_eq]
  cases u <;> cases v <;> cases op <;> rfl
def fpure (P : Program) (o : Op) (R : Rf) : Option AV :=
  match o with
  | .move x => fval R x
  | .assign x => fval R x
  | .pick c a b => (fval R c).bind fun u => pickOf u (fval R a) (fval R b)
  | .build t ps => (fparts R ps.toList).bind (abuild P t)
  | .nilCheck x => (fval R x).bind anil
  | .binOp op t x y _ => (fval R x).bind fun u => (fval R y).bind fun v => fbin P op t (isConst x || isConst y) u v
  | .unOp op _ x => (fval R x).bind (aun op)
  | .convert s d x => (fval R x).bind (aconv P s d)
  | .makeInterface t x => (fval R x).bind (aiface P t)
  | .makeFunc fn f c => (fvals R f.toList).bind fun fs => (fvals R c.toList).bind fun cs => some (.func fn fs cs)
  | .slice t x lo hi mx => (fval R x).bind fun v => (fvalO R lo).bind fun l => (fvalO R hi).bind fun h => (fvalO R mx).bind fun m => aslice P t v l h m
  | .fieldAddr t x f => (fval R x).bind fun v => afieldAddr P t v f
  | .field t x f => (fval R x).bind fun v => afield P t v f
  | .indexAddr t x i => (fval R x).bind fun u => (fval R i).bind fun v => aindexAddr P t u v
  | .index t x i => (fval R x).bind fun u => (fval R i).bind fun v => aindex P t u v
  | .extract x i => (fval R x).bind fun v => aextract v i
  | .call c => match c.callee with
    | .builtin b => (fvals R c.args.toList).bind (abuiltin P .empty b c.argTypes.toList)
    | _ => none
  | _ => none
def fread (P : Program) (o : Op) (R : Rf) (H : AHeap) : Option AV :=
  match o with
  | .load t x => (fval R x).bind (aload P H t)
  | .lookup t x k ok => (fval R x).bind fun u => (fval R k).bind fun v => alookup P H t u v ok
  | .convert s d x => (fval R x).bind (abytesToStr P H s d)
  | .call c => match c.callee with
    | .builtin b => (fvals R c.args.toList).bind (abuiltin P H b c.argTypes.toList)
    | _ => none
  | _ => none
def boxOf (l : Nat) (v : AV) : Option (AV × ABlk) := bif v.cells.all AV.one then some (.ptr l 0 0, .row false v.cells.length [v.cells]) else none
def sliceOf (P : Program) (l : Nat) (t : TypeId) (len : Nat) (parts : List (Nat × AV)) : Option (AV × ABlk) :=
  match P.underlying t with
  | some (.slice e) =>
    (match tySize P e, azero P e with
    | some sz, some z =>
      bif decide (len * sz ≤ 16777216 ∧ z.cells.length = sz ∧ z.cells.all AV.one = true) then
        (asetEls sz (List.replicate len z.cells) parts).bind fun els => some (.sl l 0 len sz (some len), .row false sz els)
      else none
    | _, _ => none)
  | _ => none
def fnew (P : Program) (o : Op) (R : Rf) (l : Nat) : Option (AV × ABlk) :=
  match o with
  | .alloc t => (azero P t).bind (boxOf l)
  | .box _ x => (fval R x).bind (boxOf l)
  | .buildSlice t n ps => (fparts R ps.toList).bind (sliceOf P l t n)
  | .makeMap _ none => some (.map l, .map [])
  | .makeSlice t x c => (fval R x).bind fun u => (fval R c).bind fun v => newOf (amakeSlice P ⟨.leaf, l⟩ t u v) l
  | _ => none
def fwrite (P : Program) (o : Op) (R : Rf) (H : AHeap) : Option (AV × AHeap) :=
  match o with
  | .store t x y => (fval R x).bind fun u => (fval R y).bind fun v => (astore P H t u v).bind fun H' => some (.tuple [], H')
  | .mapUpdate t m k x => (fval R m).bind fun u => (fval R k).bind fun v => (fval R x).bind fun z => (amapUpdate P H t u v z).bind fun H' => some (.tuple [], H')
  | .insert t m k x => (fval R m).bind fun u => (fval R k).bind fun v => (fval R x).bind fun z => (amapUpdate P H t u v z).bind fun H' => some (.tuple [], H')
  | .call c => match c.callee, c.args.toList with
    | .builtin .append, [s, x] => (fval R s).bind fun u => (fval R x).bind fun v => aappend P H c.argTypes.toList u v
    | _, _ => none
  | _ => none
def calleeOf (f : AV) (vs : List AV) : Option (Nat × List AV) := match f with
  | .func (.func g) first captured => some (g, first ++ vs ++ captured)
  | _ => none
def fcallee (R : Rf) (c : Call) : Option (Nat × List AV) :=
  match c.callee with
  | .value f => (fval R f).bind fun u => (fvals R c.args.toList).bind fun vs => calleeOf u vs
  | _ => none
def xboth (a b : Option AV) (k : K → O) : O := match a with
  | some v => k (.pure v)
  | none => b.bind fun v => k (.read v)
def xnew (r : Option (AV × ABlk)) (k : K → O) : O := match r with
  | some (v, b) => k (.new v b)
  | none => none
def xeff (H : AHeap) (r : O) (k : K → O) : O := match r with
  | some (v, H') => bif decide (H.next ≤ H'.next) then k (.eff v H') else none
  | none => none
def fk (P : Program) (call : CallT) (o : Op) (R : Rf) (H : AHeap) (k : K → O) : O :=
  match cls o with
  | .pure => (fpure P o R).bind fun v => k (.pure v)
  | .read => (fread P o R H).bind fun v => k (.read v)
  | .both => xboth (fpure P o R) (fread P o R H) k
  | .new => xnew (fnew P o R H.next) k
  | .write => xeff H (fwrite P o R H) k
  | .call => match o with
    | .call c => (fcallee R c).bind fun p => xeff H (call p.1 p.2 H) k
    | _ => none
def xguard (b : AV) (want : Bool) (m : (K → O) → O) (k : K → O) : O := match b with
  | .bool t => bif t == want then m k else k .skip
  | _ => k .skip
def fkg (P : Program) (call : CallT) (ops : Array Oper) (o : Oper) (R : Rf) (H : AHeap) (k : K → O) : O :=
  match o.guard with
  | none => fk P call o.op R H k
  | some (j, want) => match ops[j]? with
    | some q => (match q.dst with
      | some d => xguard (R d) want (fk P call o.op R H) k
      | none => k .skip)
    | none => k .skip
def seqC (P : Program) (call : CallT) (ops : Array Oper) : List Oper → Rf → AHeap → (Rf → AHeap → O) → O
  | [], R, H, k => k R H
  | o :: os, R, H, k => fkg P call ops o R H fun x => seqC P call ops os (upd R o.dst x.val) (x.heap H) k
structure Tc where
  i : Nat
  k : K
  rd : AHeap → Option AV
def effC (ms : List Nat) : List Tc → List Nat → Bool
  | [], _ => true
  | t :: ts, ids => match t.k with
    | .eff _ _ => ids.all (fun j => bfOf ms j t.i) && effC ms ts (t.i :: ids)
    | .new _ _ => effC ms ts (t.i :: ids)
    | _ => effC ms ts ids
def rdIs (r : Option AV) (v : AV) : Bool := match r with
  | some u => AV.beq u v
  | none => false
def winC (ms : List Nat) (rd : AHeap → Bool) (i : Nat) : List Tc → AHeap → Bool
  | [], H => rd H
  | t :: ts, H => bif t.k.isHeap then (bfOf ms t.i i || rd H) && (bfOf ms i t.i || winC ms rd i ts (t.k.heap H)) else winC ms rd i ts H
def candC (ms : List Nat) (i : Nat) : List Tc → Bool → Bool
  | [], _ => false
  | t :: ts, s => match t.k with
    | .new _ _ => (s && bfOf ms t.i i && ts.all fun u => noEff u.k) || candC ms i ts (s || !bfOf ms t.i i)
    | .eff _ _ => candC ms i ts (s || !bfOf ms t.i i)
    | _ => candC ms i ts s
def newC (ms : List Nat) (rd : AHeap → Bool) (i : Nat) : List Tc → AHeap → Bool → Bool
  | [], _, _ => false
  | t :: ts, H, s => match t.k with
    | .new _ b => bif s && bfOf ms t.i i && ts.all (fun u => noEff u.k) then rd (H.push b).only || newC ms rd i ts (H.push b) (s || !bfOf ms t.i i) else newC ms rd i ts (H.push b) (s || !bfOf ms t.i i)
    | .eff _ H' => newC ms rd i ts H' (s || !bfOf ms t.i i)
    | _ => newC ms rd i ts H s
def seeC (ms : List Nat) (rd : AHeap → Bool) (i : Nat) (T : List Tc) (H : AHeap) : Bool :=
  bif candC ms i T false then winC ms rd i T H || newC ms rd i T H false else winC ms rd i T H
def winsC (ms : List Nat) (ez : List Nat) (T : List Tc) (H : AHeap) : List Tc → Bool
  | [] => true
  | t :: ts => (match t.k with
    | .read v => ez.contains t.i || seeC ms (fun H => rdIs (t.rd H) v) t.i T H
    | _ => true) && winsC ms ez T H ts
def dchk (ms : List Nat) (ez : List Nat) (T : List Tc) (H : AHeap) : Bool := effC ms T [] && winsC ms ez T H T
def canC (P : Program) (call : CallT) (ops : Array Oper) : List Nat → Rf → AHeap → (List Tc → Rf → AHeap → O) → O
  | [], R, H, k => k [] R H
  | i :: is, R, H, k => match ops[i]? with
    | none => none
    | some o => fkg P call ops o R H fun x => canC P call ops is (upd R o.dst x.val) (x.heap H) fun T R' H' => k (⟨i, x, fread P o.op R⟩ :: T) R' H'
def tiedL (ops : Array Oper) : List Nat := (order ops).filter (tied ops (masks ops) (order ops))
def quiet (ops : Array Oper) : Bool := ops.toList.all fun o => !heapOp o.op
def regC (P : Program) (call : CallT) (ops : Array Oper) (draw : Bool) (R : Rf) (H : AHeap) (k : Rf → AHeap → O) : O :=
  match draw with
  | false => seqC P call ops ops.toList R H k
  | true => bif quiet ops then canC P call ops (order ops) R H fun _ R' H' => k R' H' else
    canC P call ops (order ops) R H fun T R' H' => bif dchk (masks ops) (tiedL ops) T H then k R' H' else none
def xif (c : Option AV) (a b : O) : O := match c with
  | some (.bool t) => bif t then a else b
  | _ => none
abbrev Kc := Rf → AHeap → O
def look (i : Nat) : List (Nat × Kc) → Kc
  | [], _, _ => none
  | (j, k) :: ks, R, H => bif Nat.beq i j then k R H else look i ks R H
def iterC (b : Kc → Kc) : Nat → Kc
  | 0, _, _ => none
  | n + 1, R, H => b (fun R H => iterC b n R H) R H
def codeC (P : Program) (call : CallT) (N : Nat) : Code → Kc → List (Nat × Kc) → Kc → Kc
  | .skip, kn, _, _, R, H => kn R H
  | .region _ ops d, kn, _, _, R, H => regC P call ops d R H kn
  | .seq a b, kn, ks, kr, R, H => codeC P call N a (fun R H => codeC P call N b kn ks kr R H) ks kr R H
  | .cond c a b, kn, ks, kr, R, H => xif (fval R c) (codeC P call N a kn ks kr R H) (codeC P call N b kn ks kr R H)
  | .block id b, kn, ks, kr, R, H => codeC P call N b kn ((id, kn) :: ks) kr R H
  | .loop b, _, ks, kr, R, H => iterC (fun kn R H => codeC P call N b kn ks kr R H) N R H
  | .exit id, _, ks, _, R, H => look id ks R H
  | .ret, _, _, kr, R, H => kr R H
  | .label _, kn, _, _, R, H => kn R H
  | _, _, _, _, _, _ => none
def resC (P : Program) (H : AHeap) (R : Rf) : List ResultVar → (List AV → O) → O
  | [], k => k []
  | .tmp t :: rs, k => resC P H R rs fun vs => k (R t :: vs)
  | .cell a t :: rs, k => (aload P H t (R a)).bind fun v => resC P H R rs fun vs => k (v :: vs)
def retC (P : Program) (rs : List ResultVar) : Kc := fun R H => resC P H R rs fun vs => some (aone vs, H)
def argsF : List AV → Rf
  | [], _ => .tuple []
  | v :: _, 0 => v
  | _ :: vs, n + 1 => argsF vs n
section
variable {P : Program} {orc : CallT} {call : CallT} {R R' : Regs} {H : AHeap}
theorem fval_eq (x : Operand) : fval R.get x = aval R x := by cases x <;> rfl
theorem fvals_eq : ∀ xs : List Operand, fvals R.get xs = avals R xs
  | [] => rfl
  | x :: xs => by
    simp only [fvals, avals, fval_eq, fvals_eq xs]
    cases aval R x <;> cases avals R xs <;> rfl
theorem fparts_eq : ∀ xs : List (Nat × Operand), fparts R.get xs = aparts R xs
  | [] => rfl
  | (i, x) :: xs => by
    simp only [fparts, aparts, fval_eq, fparts_eq xs]
    cases aval R x <;> cases aparts R xs <;> rfl
theorem fvalO_eq (x : Option Operand) : fvalO R.get x = avalO R x := by
  cases x with
  | none => rfl
  | some x => simp only [fvalO, avalO, fval_eq]; cases aval R x <;> rfl
theorem fpure_eq (o : Op) : fpure P o R.get = apure P o R := by
  cases o <;> simp only [fpure, apure, fval_eq, fvals_eq, fparts_eq, fvalO_eq, fbin_eq]
  · rename_i c a b
    cases hc : aval R c with
    | none => rfl
    | some v => cases v <;> first | rfl | (rename_i t; cases t <;> rfl)
  · rename_i c; cases c.callee <;> rfl
theorem fread_eq (o : Op) : fread P o R.get H = aread P o R H := by
  cases o <;> simp only [fread, aread, fval_eq, fvals_eq]
  · rename_i c; cases c.callee <;> rfl
theorem newOf_push (v : AV) (l : Nat) (b : ABlk) (hb : b.isRw = true) : newOf (some (v, AHeap.push ⟨.leaf, l⟩ b)) l = some (v, b) := by
  unfold newOf
  simp only [AHeap.next_push, if_true]
  have : (AHeap.push ⟨.leaf, l⟩ b).get l = some b := AHeap.get_push_same ⟨.leaf, l⟩ b
  rw [this]; simp [hb]
theorem boxOf_eq (l : Nat) (v : AV) : boxOf l v = newOf (abox ⟨.leaf, l⟩ v) l := by
  unfold boxOf abox
  by_cases h : v.cells.all AV.one = true
  · rw [h, if_pos rfl]; exact (newOf_push _ _ _ rfl).symm
  · rw [if_neg h]; simp only [Bool.not_eq_true] at h; rw [h]; rfl
theorem sliceOf_eq (l : Nat) (t : TypeId) (n : Nat) (ps : List (Nat × AV)) : sliceOf P l t n ps = newOf (abuildSlice P ⟨.leaf, l⟩ t n ps) l := by
  unfold sliceOf abuildSlice
  cases hu : P.underlying t with
  | none => rfl
  | some d =>
    cases d <;> try rfl
    rename_i e
    simp only
    cases hs : tySize P e with
    | none => rfl
    | some sz =>
    cases hz : azero P e with
    | none => rfl
    | some z =>
      simp only
      by_cases h : n * sz ≤ 16777216 ∧ z.cells.length = sz ∧ z.cells.all AV.one = true
      · rw [if_pos h, decide_eq_true h]
        simp only [cond_true]
        cases asetEls sz (List.replicate n z.cells) ps with
        | none => rfl
        | some els => exact (newOf_push _ _ _ rfl).symm
      · rw [if_neg h, decide_eq_false h]; rfl
theorem fnew_eq (o : Op) (l : Nat) : fnew P o R.get l = anew P o R l := by
  unfold anew
  cases o <;> simp only [fnew, anewH, fval_eq, fparts_eq] <;> try rfl
  · rename_i t
    unfold aalloc
    cases azero P t with
    | none => rfl
    | some v => exact boxOf_eq l v
  · rename_i t x
    cases aval R x with
    | none => rfl
    | some v => exact boxOf_eq l v
  · rename_i t n ps
    cases aparts R ps.toList with
    | none => rfl
    | some v => exact sliceOf_eq l t n v
  · rename_i t r
    cases r with
    | none => exact (newOf_push _ _ _ rfl).symm
    | some r => rfl
  · rename_i t x c
    cases aval R x with
    | none => rfl
    | some u => cases aval R c <;> rfl
theorem map_bind {α β : Type} (x : Option α) (f : α → β) : x.bind (fun a => some (f a)) = x.map f := by cases x <;> rfl
theorem fwrite_eq (o : Op) : fwrite P o R.get H = awrite P o R H := by
  cases o <;> simp only [fwrite, awrite, fval_eq, map_bind]
  · rename_i c
    cases hc : c.callee with
    | builtin b =>
      cases ha : c.args.toList with
      | nil => cases b <;> rfl
      | cons s r =>
        cases r with
        | nil => cases b <;> rfl
        | cons x r => cases r <;> cases b <;> rfl
    | value f => rfl
    | invoke r m => rfl
theorem fcallee_eq (c : Call) : fcallee R.get c = acallee R c := by
  unfold fcallee acallee
  cases hc : c.callee with
  | value f =>
    simp only [fval_eq, fvals_eq]
    cases aval R f with
    | none => rfl
    | some v =>
      cases hv : avals R c.args.toList with
      | none =>
        simp only [Option.bind_some, Option.bind_none]
        split <;> first | rfl | (simp_all; done)
      | some vs =>
        simp only [Option.bind_some]
        unfold calleeOf
        split
        · rename_i g first captured; rfl
        · rename_i hne
          split
          · rename_i g first captured he
            simp only [Option.some.injEq] at he
            exact absurd he (hne _ _ _)
          · rfl
  | invoke r m => rfl
  | builtin b => rfl
theorem fk_eq (o : Op) (k : K → O) : fk P call o R.get H k = (step1 P call o R H).bind k := by
  unfold fk step1
  cases hcl : cls o with
  | pure => simp only [fpure_eq]; cases apure P o R <;> rfl
  | read => simp only [fread_eq]; cases aread P o R H <;> rfl
  | both =>
    simp only [fpure_eq, fread_eq]
    unfold xboth
    cases apure P o R with
    | some v => rfl
    | none => cases aread P o R H <;> rfl
  | new =>
    simp only [fnew_eq]
    unfold xnew
    cases anew P o R H.next <;> rfl
  | write =>
    simp only [fwrite_eq]
    unfold xeff
    cases h : awrite P o R H with
    | none => rfl
    | some r =>
      obtain ⟨v, H'⟩ := r
      simp only [keff]
      by_cases hn : H.next ≤ H'.next
      · rw [if_pos hn, decide_eq_true hn]; rfl
      · rw [if_neg hn, decide_eq_false hn]; rfl
  | call =>
    cases o <;> try rfl
    rename_i c
    simp only [fcallee_eq]
    cases acallee R c with
    | none => rfl
    | some p =>
      obtain ⟨g, vs⟩ := p
      simp only [Option.bind_some]
      unfold xeff
      cases h : call g vs H with
      | none => rfl
      | some r =>
        obtain ⟨v, H'⟩ := r
        simp only [keff]
        by_cases hn : H.next ≤ H'.next
        · rw [if_pos hn, decide_eq_true hn]; rfl
        · rw [if_neg hn, decide_eq_false hn]; rfl
theorem fkg_eq (ops : Array Oper) (o : Oper) (k : K → O) : fkg P call ops o R.get H k = (kind1 P call ops o R H).bind k := by
  unfold fkg kind1 awanted
  cases hg : o.guard with
  | none => exact fk_eq o.op k
  | some p =>
    obtain ⟨j, want⟩ := p
    simp only
    cases hq : ops[j]? with
    | none => rfl
    | some q =>
      simp only
      cases hd : q.dst with
      | none => rfl
      | some d =>
        simp only
        cases hv : R.get d <;> try rfl
        rename_i t
        simp only [xguard]
        cases hh : (t == want) with
        | true => simp only [cond_true]; exact fk_eq o.op k
        | false => rfl
theorem upd_eq {dst : Option Nat} {v : AV} (h : R.put dst v = some R') : upd R.get dst v = R'.get := by
  funext e
  rw [Regs.get_put h]
  cases dst with
  | none => simp [upd]
  | some d =>
    simp only [upd]
    by_cases he : e = d
    · subst he; simp [Nat.beq_refl]
    · have h1 : Nat.beq e d = false := by rw [← Bool.not_eq_true, Nat.beq_eq]; exact he
      rw [h1]; simp [Ne.symm he]
def dstOk (n : Nat) (o : Oper) : Bool := match o.dst with
  | none => true
  | some d => decide (d < n)
theorem put_ok {o : Oper} (h : dstOk R.size o = true) (v : AV) : ∃ R', R.put o.dst v = some R' ∧ R'.size = R.size := by
  unfold dstOk at h
  cases hd : o.dst with
  | none => exact ⟨R, rfl, rfl⟩
  | some d =>
    rw [hd] at h
    exact ⟨{ R with t := Tr.put v (d + 1) R.t d }, by simp only [Regs.put]; rw [if_pos (of_decide_eq_true h)], rfl⟩
theorem seqC_eq (ops : Array Oper) (k : Rf → AHeap → O) : ∀ (os : List Oper) (R : Regs) (H : AHeap), os.all (dstOk R.size) = true →
    seqC P call ops os R.get H k = (seqRun P call ops os R H).bind fun p => k p.1.get p.2
  | [], R, H, _ => rfl
  | o :: os, R, H, h => by
    simp only [List.all_cons, Bool.and_eq_true] at h
    simp only [seqC, seqRun, fkg_eq]
    cases hk : kind1 P call ops o R H with
    | none => rfl
    | some x =>
      obtain ⟨R', h1, h2⟩ := put_ok h.1 x.val
      simp only [Option.bind_some, h1, upd_eq h1]
      exact seqC_eq ops k os R' _ (by rw [h2]; exact h.2)
def TE.c (P : Program) (t : TE) : Tc := ⟨t.i, t.k, fread P t.o.op t.R.get⟩
theorem effC_eq (ms : List Nat) : ∀ (T : List TE) (ids : List Nat), effC ms (T.map (TE.c P)) ids = effOk ms T ids
  | [], _ => rfl
  | t :: T, ids => by
    simp only [List.map_cons, effC, effOk, TE.c]
    cases t.k <;> simp only [effC_eq ms T]
theorem winC_eq (ms : List Nat) (rd : AHeap → Bool) (i : Nat) : ∀ (T : List TE) (H : AHeap), winC ms rd i (T.map (TE.c P)) H = winOk ms rd i T H
  | [], _ => rfl
  | t :: T, H => by
    simp only [List.map_cons, winC, winOk, TE.c]
    cases t.k.isHeap
    · simp only [cond_false]; exact winC_eq ms rd i T H
    · simp only [cond_true, if_true]; rw [winC_eq ms rd i T]
theorem candC_eq (ms : List Nat) (i : Nat) : ∀ (T : List TE) (s : Bool), candC ms i (T.map (TE.c P)) s = candOk ms i T s
  | [], _ => rfl
  | t :: T, s => by
    simp only [List.map_cons, candC, candOk, TE.c]
    cases t.k <;> simp only [candC_eq ms i T, List.all_map] <;> rfl
theorem newC_eq (ms : List Nat) (rd : AHeap → Bool) (i : Nat) : ∀ (T : List TE) (H : AHeap) (s : Bool), newC ms rd i (T.map (TE.c P)) H s = newOk ms rd i T H s
  | [], _, _ => rfl
  | t :: T, H, s => by
    simp only [List.map_cons, newC, newOk, TE.c]
    cases t.k <;> simp only [newC_eq ms rd i T, List.all_map] <;> rfl
theorem seeC_eq (ms : List Nat) (rd : AHeap → Bool) (i : Nat) (T : List TE) (H : AHeap) : seeC ms rd i (T.map (TE.c P)) H = seeOk ms rd i T H := by
  simp only [seeC, seeOk, candC_eq, newC_eq, winC_eq]
theorem winsC_eq (ms : List Nat) (tl : List Nat) (ez : Nat → Bool) (T : List TE) (H : AHeap) : ∀ (S : List TE), (∀ t ∈ S, tl.contains t.i = ez t.i) → winsC ms tl (T.map (TE.c P)) H (S.map (TE.c P)) = winsOk P ms ez T H S
  | [], _ => rfl
  | t :: S, h => by
    simp only [List.map_cons, winsC, winsOk, winsC_eq ms tl ez T H S fun t ht => h t (by simp [ht])]
    congr 1
    simp only [TE.c, h t (by simp)]
    cases t.k <;> try rfl
    simp only [seeC_eq]
    congr 2
    funext H
    simp only [rdIs, readIs, fread_eq]
    cases aread P t.o.op t.R H <;> rfl
theorem quiet_eff (ms : List Nat) : ∀ (T : List TE) (ids : List Nat), (∀ t ∈ T, t.k.isHeap = false) → effOk ms T ids = true
  | [], _, _ => rfl
  | t :: T, ids, h => by
    have ht := h t (by simp)
    simp only [effOk]
    have ih := quiet_eff ms T ids fun u hu => h u (by simp [hu])
    cases hk : t.k <;> rw [hk] at ht <;> first | exact ih | (cases ht; done)
theorem quiet_win (ms : List Nat) (ez : Nat → Bool) (T : List TE) (H : AHeap) : ∀ (S : List TE), (∀ t ∈ S, ez t.i = true) → winsOk P ms ez T H S = true
  | [], _ => rfl
  | t :: S, h => by
    simp only [winsOk, h t (by simp), quiet_win ms ez T H S fun t ht => h t (by simp [ht]), Bool.true_or, Bool.and_true]
    cases t.k <;> rfl
theorem canC_eq (ops : Array Oper) : ∀ (is : List Nat) (R : Regs) (H : AHeap) (k : List Tc → Rf → AHeap → O), ops.toList.all (dstOk R.size) = true →
    canC P call ops is R.get H k = (canRun P call ops is R H).bind fun p => k (p.1.map (TE.c P)) p.2.1.get p.2.2
  | [], R, H, k, _ => rfl
  | i :: is, R, H, k, h => by
    simp only [canC, canRun]
    cases ho : ops[i]? with
    | none => rfl
    | some o =>
      simp only [fkg_eq]
      cases hk : kind1 P call ops o R H with
      | none => rfl
      | some x =>
        have hm : dstOk R.size o = true := by
          rw [List.all_eq_true] at h
          exact h o (by have := Array.mem_of_getElem? ho; simpa using this)
        obtain ⟨R', h1, h2⟩ := put_ok hm x.val
        simp only [Option.bind_some, h1, upd_eq h1]
        rw [canC_eq ops is R' _ _ (by rw [h2]; exact h)]
        cases canRun P call ops is R' (x.heap H) with
        | none => rfl
        | some p => obtain ⟨T, R1, H1⟩ := p; rfl
theorem regC_eq (ops : Array Oper) (d : Bool) (k : Rf → AHeap → O) (h : ops.toList.all (dstOk R.size) = true) : regC P call ops d R.get H k = (regRun P call ops d R H).bind fun p => k p.1.get p.2 := by
  unfold regC regRun
  cases d with
  | false => exact seqC_eq ops k _ R H h
  | true =>
    simp only
    rw [canC_eq ops _ R H _ h, canC_eq ops _ R H _ h]
    cases hc : canRun P call ops (order ops) R H with
    | none => cases quiet ops <;> rfl
    | some p =>
      obtain ⟨T, R1, H1⟩ := p
      have hi := (canRun_regs hc).1
      have hmem : ∀ t ∈ T, t.i ∈ order ops := fun t ht => by rw [← hi]; exact List.mem_map.2 ⟨t, ht, rfl⟩
      have htl : ∀ t ∈ T, (tiedL ops).contains t.i = tied ops (masks ops) (order ops) t.i := fun t ht => by
        unfold tiedL
        rw [Bool.eq_iff_iff, List.contains_iff_mem, List.mem_filter]
        exact ⟨fun h => h.2, fun h => ⟨hmem t ht, h⟩⟩
      simp only [Option.bind_some]
      cases hq : quiet ops with
      | true =>
        have hno : ∀ o ∈ ops.toList, heapOp o.op = false := fun o ho => by
          unfold quiet at hq
          rw [List.all_eq_true] at hq
          simpa using hq o ho
        have hT : ∀ t ∈ T, t.k.isHeap = false := fun t ht => by
          obtain ⟨A, B, hAB⟩ := List.append_of_mem ht
          have hat := canRun_at (P := P) (call := call) (by rw [← hAB]; exact hc)
          cases hh : t.k.isHeap with
          | false => rfl
          | true =>
            have := kind1_heap hat.2.2.1 hh
            rw [hno t.o (by have := Array.mem_of_getElem? hat.1; simpa using this)] at this
            cases this
        have hez : ∀ t ∈ T, tied ops (masks ops) (order ops) t.i = true := fun t _ => by
          unfold tied
          rw [List.all_eq_true]
          intro j _
          cases hj : ops[j]? with
          | none => simp
          | some o => simp [hno o (by have := Array.mem_of_getElem? hj; simpa using this)]
        simp only [cond_true, quiet_eff (masks ops) T [] hT, quiet_win (masks ops) _ T H T hez]
        rfl
      | false =>
        simp only [cond_false, dchk, effC_eq, winsC_eq _ _ _ T H T htl]
        cases effOk (masks ops) T [] with
        | false => rfl
        | true =>
          cases winsOk P (masks ops) (tied ops (masks ops) (order ops)) T H T <;> rfl
def dstsOk (n : Nat) : Code → Bool
  | .region _ ops _ => ops.toList.all (dstOk n)
  | .seq a b => dstsOk n a && dstsOk n b
  | .cond _ a b => dstsOk n a && dstsOk n b
  | .block _ b => dstsOk n b
  | .loop b => dstsOk n b
  | _ => true
def endC (r : Option (Ex × Regs × AHeap)) (kn : Kc) (ks : List (Nat × Kc)) (kr : Kc) : O := match r with
  | some (.normal, R, H) => kn R.get H
  | some (.exit id, R, H) => look id ks R.get H
  | some (.ret, R, H) => kr R.get H
  | none => none
theorem size_seqRun {ops : Array Oper} : ∀ {os : List Oper} {R R' : Regs} {H H' : AHeap}, seqRun P call ops os R H = some (R', H') → R'.size = R.size
  | [], R, R', H, H', h => by
    simp only [seqRun, Option.some.injEq, Prod.mk.injEq] at h; rw [h.1]
  | o :: os, R, R', H, H', h => by
    simp only [seqRun] at h
    split at h
    · cases h
    · split at h
      · cases h
      · rename_i R1 h1
        rw [size_seqRun h, Regs.size_put h1]
theorem size_canRun {ops : Array Oper} : ∀ {is : List Nat} {R R' : Regs} {H H' : AHeap} {T : List TE}, canRun P call ops is R H = some (T, R', H') → R'.size = R.size
  | [], R, R', H, H', T, h => by
    simp only [canRun, Option.some.injEq, Prod.mk.injEq] at h; rw [h.2.1]
  | i :: is, R, R', H, H', T, h => by
    simp only [canRun] at h
    split at h
    · cases h
    · split at h
      · cases h
      · split at h
        · cases h
        · rename_i R1 h1
          split at h
          · cases h
          · rename_i h2
            simp only [Option.some.injEq, Prod.mk.injEq] at h
            obtain ⟨_, rfl, _⟩ := h
            rw [size_canRun h2, Regs.size_put h1]
theorem size_regRun {ops : Array Oper} {d : Bool} {R R' : Regs} {H H' : AHeap} (h : regRun P call ops d R H = some (R', H')) : R'.size = R.size := by
  unfold regRun at h
  split at h
  · exact size_seqRun h
  · split at h
    · cases h
    · rename_i h1
      split at h
      · cases h
      · split at h
        · cases h
        · simp only [Option.some.injEq, Prod.mk.injEq] at h
          obtain ⟨rfl, _⟩ := h
          exact size_canRun h1
theorem size_iter {f : Regs → AHeap → Option (Ex × Regs × AHeap)} (hf : ∀ R H ex R' H', f R H = some (ex, R', H') → R'.size = R.size) :
    ∀ {n : Nat} {R : Regs} {H : AHeap} {ex : Ex} {R' : Regs} {H' : AHeap}, iter f n R H = some (ex, R', H') → R'.size = R.size
  | 0, _, _, _, _, _, h => by cases h
  | n + 1, R, H, ex, R', H', h => by
    simp only [iter] at h
    split at h
    · rename_i R1 H1 h1
      rw [size_iter hf h, hf _ _ _ _ _ h1]
    · exact hf _ _ _ _ _ h
theorem size_evCode {N : Nat} : ∀ (c : Code) {R : Regs} {H : AHeap} {ex : Ex} {R' : Regs} {H' : AHeap}, evCode (regRun P call) N c R H = some (ex, R', H') → R'.size = R.size := by
  intro c
  induction c with
  | skip => intro R H ex R' H' h; simp only [evCode, Option.some.injEq, Prod.mk.injEq] at h; rw [h.2.1]
  | region id ops d =>
    intro R H ex R' H' h
    simp only [evCode] at h
    split at h
    · rename_i R1 H1 h1
      simp only [Option.some.injEq, Prod.mk.injEq] at h
      obtain ⟨_, rfl, _⟩ := h
      exact size_regRun h1
    · cases h
  | seq a b iha ihb =>
    intro R H ex R' H' h
    simp only [evCode] at h
    split at h
    · rename_i R1 H1 h1
      rw [ihb h, iha h1]
    · exact iha h
  | cond c a b iha ihb =>
    intro R H ex R' H' h
    simp only [evCode] at h
    split at h
    · exact iha h
    · exact ihb h
    · cases h
  | block id b ih =>
    intro R H ex R' H' h
    simp only [evCode] at h
    split at h
    · rename_i id' R1 H1 h1
      split at h <;> (simp only [Option.some.injEq, Prod.mk.injEq] at h; obtain ⟨_, rfl, _⟩ := h; exact ih h1)
    · exact ih h
  | loop b ih =>
    intro R H ex R' H' h
    simp only [evCode] at h
    exact size_iter (fun _ _ _ _ _ h => ih h) h
  | exit id => intro R H ex R' H' h; simp only [evCode, Option.some.injEq, Prod.mk.injEq] at h; rw [h.2.1]
  | ret => intro R H ex R' H' h; simp only [evCode, Option.some.injEq, Prod.mk.injEq] at h; rw [h.2.1]
  | label l => intro R H ex R' H' h; simp only [evCode, Option.some.injEq, Prod.mk.injEq] at h; rw [h.2.1]
  | goto l => intro R H ex R' H' h; cases h
  | scope b ih => intro R H ex R' H' h; cases h
  | rangeFunc f ps a b iha ihb => intro R H ex R' H' h; cases h
  | refuse y => intro R H ex R' H' h; cases h
theorem iterC_eq {f : Regs → AHeap → Option (Ex × Regs × AHeap)} {b : Kc → Kc} {ks : List (Nat × Kc)} {kr : Kc} (m : Nat) (hs : ∀ R H ex R' H', f R H = some (ex, R', H') → R'.size = R.size)
    (hb : ∀ (R : Regs) (H : AHeap) (kn : Kc), R.size = m → b kn R.get H = endC (f R H) kn ks kr) (kn : Kc) : ∀ (n : Nat) (R : Regs) (H : AHeap), R.size = m → iterC b n R.get H = endC (iter f n R H) kn ks kr
  | 0, R, H, _ => rfl
  | n + 1, R, H, hR => by
    simp only [iterC, iter]
    rw [hb R H _ hR]
    cases h : f R H with
    | none => rfl
    | some x =>
      obtain ⟨ex, R1, H1⟩ := x
      cases ex with
      | normal => exact iterC_eq m hs hb kn n R1 H1 (by rw [hs _ _ _ _ _ h]; exact hR)
      | exit id => rfl
      | ret => rfl
theorem codeC_eq {N : Nat} : ∀ (c : Code) (R : Regs) (H : AHeap) (kn : Kc) (ks : List (Nat × Kc)) (kr : Kc), dstsOk R.size c = true → codeC P call N c kn ks kr R.get H = endC (evCode (regRun P call) N c R H) kn ks kr := by
  intro c
  induction c with
  | skip => intro R H kn ks kr _; rfl
  | region id ops d =>
    intro R H kn ks kr h
    simp only [codeC, evCode]
    rw [regC_eq ops d kn h]
    cases regRun P call ops d R H <;> rfl
  | seq a b iha ihb =>
    intro R H kn ks kr h
    simp only [dstsOk, Bool.and_eq_true] at h
    simp only [codeC, evCode]
    rw [iha R H _ ks kr h.1]
    cases he : evCode (regRun P call) N a R H with
    | none => rfl
    | some x =>
      obtain ⟨ex, R1, H1⟩ := x
      cases ex with
      | normal => exact ihb R1 H1 kn ks kr (by rw [size_evCode a he]; exact h.2)
      | exit id => rfl
      | ret => rfl
  | cond c a b iha ihb =>
    intro R H kn ks kr h
    simp only [dstsOk, Bool.and_eq_true] at h
    simp only [codeC, evCode, fval_eq]
    unfold xif
    cases aval R c with
    | none => rfl
    | some v =>
      cases v <;> try rfl
      rename_i t
      cases t
      · exact ihb R H kn ks kr h.2
      · exact iha R H kn ks kr h.1
  | block id b ih =>
    intro R H kn ks kr h
    simp only [codeC, evCode]
    rw [ih R H kn _ kr h]
    cases he : evCode (regRun P call) N b R H with
    | none => rfl
    | some x =>
      obtain ⟨ex, R1, H1⟩ := x
      cases ex with
      | normal => rfl
      | ret => rfl
      | exit id' =>
        simp only [endC, look]
        by_cases hid : id' = id
        · subst hid; simp [Nat.beq_refl]
        · have h1 : Nat.beq id' id = false := by rw [← Bool.not_eq_true, Nat.beq_eq]; exact hid
          rw [h1, if_neg hid]; rfl
  | loop b ih =>
    intro R H kn ks kr h
    simp only [codeC, evCode]
    exact iterC_eq R.size (fun _ _ _ _ _ h => size_evCode b h) (fun R1 H1 kn hR1 => ih R1 H1 kn ks kr (by rw [hR1]; exact h)) kn N R H rfl
  | exit id => intro R H kn ks kr _; rfl
  | ret => intro R H kn ks kr _; rfl
  | label l => intro R H kn ks kr _; rfl
  | goto l => intro R H kn ks kr _; rfl
  | scope b ih => intro R H kn ks kr _; rfl
  | rangeFunc f ps a b iha ihb => intro R H kn ks kr _; rfl
  | refuse y => intro R H kn ks kr _; rfl
theorem resC_eq {R : Regs} {H : AHeap} : ∀ (rs : List ResultVar) (k : List AV → O), resC P H R.get rs k = (ares P R H rs).bind k
  | [], k => rfl
  | .tmp t :: rs, k => by
    simp only [resC, ares, ares1]
    rw [resC_eq rs]
    cases ares P R H rs <;> rfl
  | .cell a t :: rs, k => by
    simp only [resC, ares, ares1]
    cases aload P H t (R.get a) with
    | none => rfl
    | some v =>
      simp only [Option.bind_some]
      rw [resC_eq rs]
      cases ares P R H rs <;> rfl
theorem argsF_eq (n : Nat) (args : List AV) : (Regs.enter n args).get = argsF args := by
  have h : ∀ (args : List AV) (d : Nat), argsF args d = (args[d]?).getD (.tuple []) := by
    intro args
    induction args with
    | nil => intro d; cases d <;> rfl
    | cons v vs ih =>
      intro d
      cases d with
      | zero => rfl
      | succ d => simpa [argsF] using ih d
  funext d
  rw [h]
  unfold Regs.get Regs.enter
  simp only [ofGo_get]
  by_cases hd : d < args.length
  · rw [if_pos (by omega)]; simp [hd]
  · rw [if_neg (by omega), Tr.get_leaf]; simp [hd]
theorem evw_code {f : Nat} {args : List AV} {H : AHeap} {fn : Func} {c : Code} {M : Nat} {r : AV × AHeap} (hO : orc f args H = none) (hf : P.funcs[f]? = some fn) (hb : fn.body = some c) (hd : dstsOk fn.ntmps c = true) (hn : Nat.ble args.length fn.ntmps = true)
    (h : codeC P (evw P orc) M c (retC P fn.results.toList) [] (retC P fn.results.toList) (argsF args) H = some r) : evw P orc f args H = some r := by
  have hs : (Regs.enter fn.ntmps args).size = fn.ntmps := by have := Nat.le_of_ble_eq_true hn; simp only [Regs.enter]; omega
  rw [← argsF_eq fn.ntmps, codeC_eq c _ _ _ _ _ (by rw [hs]; exact hd)] at h
  unfold endC at h
  have fin : ∀ (R : Regs) (H' : AHeap), retC P fn.results.toList R.get H' = some r → ∃ vs, ares P R H' fn.results.toList = some vs ∧ r = (aone vs, H') := by
    intro R H' hh
    unfold retC at hh
    rw [resC_eq] at hh
    cases ha : ares P R H' fn.results.toList with
    | none => rw [ha] at hh; cases hh
    | some vs => rw [ha] at hh; exact ⟨vs, rfl, (Option.some.inj hh).symm⟩
  split at h
  · rename_i R H' he
    obtain ⟨vs, h1, rfl⟩ := fin R H' h
    exact evw_intro hO hf hb he (fun id => by intro hh; cases hh) h1
  · cases h
  · rename_i R H' he
    obtain ⟨vs, h1, rfl⟩ := fin R H' h
    exact evw_intro hO hf hb he (fun id => by intro hh; cases hh) h1
  · cases h
end
end Go.Ev

namespace Go
def Code.fst : Code → Code
  | .seq a _ => a
  | .cond _ a _ => a
  | .block _ b => b
  | .loop b => b
  | c => c
def Code.snd : Code → Code
  | .seq _ b => b
  | .cond _ _ b => b
  | c => c
def Code.test : Code → Operand
  | .cond c _ _ => c
  | _ => .tmp 0
def Code.num : Code → Nat
  | .block id _ => id
  | .exit id => id
  | _ => 0
def Code.isSeq : Code → Bool | .seq _ _ => true | _ => false
def Code.isCond : Code → Bool | .cond _ _ _ => true | _ => false
def Code.isBlock : Code → Bool | .block _ _ => true | _ => false
def Code.isLoop : Code → Bool | .loop _ => true | _ => false
end Go
namespace Go.Ev
section
variable {P : Program} {call : CallT} {N : Nat} {KN KR : Kc} {KS : List (Nat × Kc)}
theorem via_seq {c : Code} {k T : Kc} (hc : c.isSeq = true) (hy : ∀ R H, codeC P call N c.snd KN KS KR R H = k R H) (hx : ∀ R H, codeC P call N c.fst k KS KR R H = T R H) :
    ∀ R H, codeC P call N c KN KS KR R H = T R H := by
  cases c <;> first | cases hc | skip
  rename_i a b
  intro R H
  rw [← hx]
  show codeC P call N a (fun R H => codeC P call N b KN KS KR R H) KS KR R H = _
  rw [show (fun R H => codeC P call N b KN KS KR R H) = k from funext fun R => funext fun H => hy R H]
  rfl
theorem via_cond {c : Code} {A B : Kc} (hc : c.isCond = true) (ha : ∀ R H, codeC P call N c.fst KN KS KR R H = A R H) (hb : ∀ R H, codeC P call N c.snd KN KS KR R H = B R H) :
    ∀ R H, codeC P call N c KN KS KR R H = xif (fval R c.test) (A R H) (B R H) := by
  cases c <;> first | cases hc | skip
  intro R H
  rw [← ha, ← hb]
  rfl
theorem via_block {c : Code} {T : Kc} (hc : c.isBlock = true) (hb : ∀ R H, codeC P call N c.fst KN ((c.num, KN) :: KS) KR R H = T R H) : ∀ R H, codeC P call N c KN KS KR R H = T R H := by
  cases c <;> first | cases hc | skip
  intro R H
  rw [← hb]
  rfl
theorem via_loop {c : Code} {k : Nat → Kc} (hc : c.isLoop = true) (h0 : ∀ R H, k 0 R H = none) (hs : ∀ n R H, codeC P call N c.fst (k n) KS KR R H = k (n + 1) R H) : ∀ R H, codeC P call N c KN KS KR R H = k N R H := by
  cases c <;> first | cases hc | skip
  rename_i b
  have key : ∀ n R H, iterC (fun kn R H => codeC P call N b kn KS KR R H) n R H = k n R H := by
    intro n
    induction n with
    | zero => intro R H; exact (h0 R H).symm
    | succ n ih =>
      intro R H
      rw [← hs n R H]
      show codeC P call N b (fun R H => iterC _ n R H) KS KR R H = _
      rw [show (fun R H => iterC (fun kn R H => codeC P call N b kn KS KR R H) n R H) = k n from funext fun R => funext fun H => ih R H]
      rfl
  intro R H
  exact key N R H
theorem via_leaf (c : Code) : ∀ R H, codeC P call N c KN KS KR R H = codeC P call N c KN KS KR R H := fun _ _ => rfl
def xb (r : Option AV) (k : AV → O) : O := match r with
  | some v => k v
  | none => none
def xcall (H : AHeap) (r : O) (k : AV → AHeap → O) : O := match r with
  | some (v, H') => bif decide (H.next ≤ H'.next) then k v H' else none
  | none => none
def xstore (H : AHeap) (r : Option AHeap) (k : AHeap → O) : O := xcall H (r.bind fun H' => some (.tuple [], H')) fun _ H' => k H'
def xmake (H : AHeap) (r : Option (AV × ABlk)) (k : AV → AHeap → O) : O := match r with
  | some (v, b) => k v (H.push b)
  | none => none
def xalloc (H : AHeap) (cs : List AV) (k : AV → AHeap → O) : O := k (.ptr H.next 0 0) (H.push (.row false cs.length [cs]))
def bodyOf (fn : Func) : Code := match fn.body with
  | some c => c
  | none => .skip
def xlen (P : Program) (b : Builtin) (ts : List TypeId) (vs : List AV) (H : AHeap) (k : AV → O) : O := match abuiltin P .empty b ts vs with
  | some v => k v
  | none => (abuiltin P H b ts vs).bind k
def xconv (P : Program) (s d : TypeId) (v : AV) (H : AHeap) (k : AV → O) : O := match aconv P s d v with
  | some v => k v
  | none => (abytesToStr P H s d v).bind k
def xapply (call : CallT) (H : AHeap) (f : AV) (vs : List AV) (k : AV → AHeap → O) : O := (calleeOf f vs).bind fun p => xcall H (call p.1 p.2 H) k
def qv (v : AV) (q : K → O) : O := q (.pure v)
def qp (r : Option AV) (q : K → O) : O := r.bind fun v => q (.pure v)
def qr (r : Option AV) (q : K → O) : O := r.bind fun v => q (.read v)
def xg (b : AV) (want : Bool) (H : AHeap) (m : (K → O) → O) (k : AV → AHeap → O) : O := xguard b want m fun x => k x.val (x.heap H)
end
end Go.Ev

set_option linter.unusedVariables false
namespace Go.Ev
def W (m : O) (Q : AV → AHeap → Prop) : Prop := ∃ v H, m = some (v, H) ∧ Q v H
theorem W_some {v : AV} {H : AHeap} {Q : AV → AHeap → Prop} : W (some (v, H)) Q ↔ Q v H := by
  constructor
  · rintro ⟨v', H', h, q⟩
    simp only [Option.some.injEq, Prod.mk.injEq] at h
    obtain ⟨rfl, rfl⟩ := h; exact q
  · exact fun q => ⟨v, H, rfl, q⟩
theorem W.mono {m : O} {Q Q' : AV → AHeap → Prop} (h : W m Q) (hq : ∀ v H, Q v H → Q' v H) : W m Q' := by
  obtain ⟨v, H, e, q⟩ := h; exact ⟨v, H, e, hq v H q⟩
theorem W_call {r : O} {H : AHeap} {k : AV → AHeap → O} {Q Q' : AV → AHeap → Prop} (h : W r Q') (hk : ∀ v H', Q' v H' → H.next ≤ H'.next ∧ W (k v H') Q) : W (xcall H r k) Q := by
  obtain ⟨v, H', e, q⟩ := h
  obtain ⟨h1, h2⟩ := hk v H' q
  rw [e]
  simp only [xcall, decide_eq_true h1, cond_true]
  exact h2
theorem W_apply {call : CallT} {f : Nat} {a c vs : List AV} {H : AHeap} {k : AV → AHeap → O} {Q : AV → AHeap → Prop} (h : W (xcall H (call f (a ++ vs ++ c) H) k) Q) : W (xapply call H (.func (.func f) a c) vs k) Q := h
theorem W_eff {r : O} {H : AHeap} {q : K → O} {Q Q' : AV → AHeap → Prop} (h : W r Q') (hk : ∀ v H', Q' v H' → H.next ≤ H'.next ∧ W (q (.eff v H')) Q) : W (xeff H r q) Q := by
  obtain ⟨v, H', e, q'⟩ := h
  obtain ⟨h1, h2⟩ := hk v H' q'
  rw [e]
  simp only [xeff, decide_eq_true h1, cond_true]
  exact h2
theorem W_call0 {r : O} {H : AHeap} {x : AV} {k : AV → AHeap → O} {Q : AV → AHeap → Prop} (h : W r fun v H' => v = x ∧ H' = H) (hk : W (k x H) Q) : W (xcall H r k) Q := by
  refine W_call h ?_
  rintro _ H' ⟨rfl, e⟩
  rw [e]; exact ⟨Nat.le_refl _, hk⟩
theorem W_eff0 {r : O} {H : AHeap} {x : AV} {q : K → O} {Q : AV → AHeap → Prop} (h : W r fun v H' => v = x ∧ H' = H) (hk : W (q (.eff x H)) Q) : W (xeff H r q) Q := by
  refine W_eff h ?_
  rintro _ H' ⟨rfl, e⟩
  rw [e]; exact ⟨Nat.le_refl _, hk⟩
theorem W_of {m m' : O} {Q : AV → AHeap → Prop} (hr : ∀ r, m = some r → m' = some r) (h : W m Q) : W m' Q := by
  obtain ⟨v, H, e, q⟩ := h; exact ⟨v, H, hr _ e, q⟩
def zA : Nat := 0
def zB : Nat := 0
theorem zz : zA = zB := rfl
def xk (v : AV) (H : AHeap) (k : AV → AHeap → O) : O := k v H
section
variable {r r' : Option AV} {o o' : O} {m m' : Option (AV × ABlk)} {h h' : Option AHeap} {H H' : AHeap} {a a' : AV} {b b' : Bool} {z : Nat}
 @[congr] theorem xk_cg {k : AV → AHeap → O} (e : a = a') (d : H = H') (y : zA = z) : xk a H k = xk a' H' k := by rw [e, d]
theorem xalloc_eq (H : AHeap) (cs : List AV) (k : AV → AHeap → O) : xalloc H cs k = xk (.ptr H.next 0 0) (H.push (.row false cs.length [cs])) k := rfl
theorem xk_eq (v : AV) (H : AHeap) (k : AV → AHeap → O) : xk v H k = k v H := rfl
 @[congr] theorem xb_cg {k : AV → O} (e : r = r') (y : zA = z) : xb r k = xb r' k := by rw [e]
 @[congr] theorem xcall_cg {k : AV → AHeap → O} (d : H = H') (e : o = o') (y : zA = z) : xcall H o k = xcall H' o' k := by rw [d, e]
 @[congr] theorem xeff_cg {k : K → O} (d : H = H') (e : o = o') (y : zA = z) : xeff H o k = xeff H' o' k := by rw [d, e]
 @[congr] theorem xstore_cg {k : AHeap → O} (d : H = H') (e : h = h') (y : zA = z) : xstore H h k = xstore H' h' k := by rw [d, e]
 @[congr] theorem xmake_cg {k : AV → AHeap → O} (d : H = H') (e : m = m') (y : zA = z) : xmake H m k = xmake H' m' k := by rw [d, e]
 @[congr] theorem xnew_cg {k : K → O} (e : m = m') (y : zA = z) : xnew m k = xnew m' k := by rw [e]
 @[congr] theorem xif_cg {p q : O} (e : r = r') (y : zA = z) : xif r p q = xif r' p q := by rw [e]
 @[congr] theorem cond_cg {p q : O} (e : b = b') (y : zA = z) : cond b p q = cond b' p q := by rw [e]
 @[congr] theorem xg_cg {w : Bool} {f : (K → O) → O} {k : AV → AHeap → O} (e : a = a') (y : zA = z) : xg a w H f k = xg a' w H f k := by rw [e]
 @[congr] theorem xguard_cg {w : Bool} {f : (K → O) → O} {k : K → O} (e : a = a') (y : zA = z) : xguard a w f k = xguard a' w f k := by rw [e]
 @[congr] theorem xboth_cg {s s' : Option AV} {k : K → O} (e : r = r') (d : s = s') (y : zA = z) : xboth r s k = xboth r' s' k := by rw [d, e]
 @[congr] theorem qp_cg {q : K → O} (e : r = r') (y : zA = z) : qp r q = qp r' q := by rw [e]
 @[congr] theorem qr_cg {q : K → O} (e : r = r') (y : zA = z) : qr r q = qr r' q := by rw [e]
 @[congr] theorem qv_cg {q : K → O} (e : a = a') (y : zA = z) : qv a q = qv a' q := by rw [e]
theorem qp_some (v : AV) (q : K → O) : qp (some v) q = q (.pure v) := rfl
theorem qr_some (v : AV) (q : K → O) : qr (some v) q = q (.read v) := rfl
theorem qv_eq (v : AV) (q : K → O) : qv v q = q (.pure v) := rfl
end
theorem rdIs_int (k : IntKind) (n : Int) : rdIs (some (.int k n)) (.int k n) = true := by simp [rdIs, AV.beq]
theorem rdIs_str (x : List UInt8) : rdIs (some (.str x)) (.str x) = true := by simp [rdIs, AV.beq]
theorem rdIs_bool (x : Bool) : rdIs (some (.bool x)) (.bool x) = true := by simp [rdIs, AV.beq]
theorem rdIs_sl (l i n e : Nat) (c : Option Nat) : rdIs (some (.sl l i n e c)) (.sl l i n e c) = true := by simp [rdIs, AV.beq]
theorem rdIs_nilSl : rdIs (some .nilSl) .nilSl = true := rfl
theorem rdIs_of (x : List UInt8) (k : IntKind) (n : Int) : rdIs (some (.agg [.str x, .int k n])) (.agg [.str x, .int k n]) = true := by simp [rdIs, AV.beq, AVs.beq]
theorem AHeap.get_push (H : AHeap) (b : ABlk) (l : Nat) : (H.push b).get l = if l = H.next then some b else H.get l := by
  split
  · rename_i h; subst h; exact AHeap.get_push_same H b
  · rename_i h; exact AHeap.get_push_other h
theorem Tr.putP_putP {α : Type} (x y : α) : ∀ (p : List D8) (t : Tr α), Tr.putP y p (Tr.putP x p t) = Tr.putP y p t
  | [], .leaf => rfl
  | [], .node .. => rfl
  | d :: p, .leaf => by cases d <;> simp [Tr.putP, Tr.putP_putP x y p]
  | d :: p, .node .. => by cases d <;> simp [Tr.putP, Tr.putP_putP x y p]
theorem AHeap.push_set (H : AHeap) (b c : ABlk) : (H.push b).set H.next c = H.push c := by
  simp only [AHeap.push, AHeap.set, Tr.put, Tr.putP_putP]
theorem AHeap.set_set (H : AHeap) (l : Nat) (b c : ABlk) : (H.set l b).set l c = H.set l c := by
  simp only [AHeap.set, Tr.put, Tr.putP_putP]
theorem AHeap.get_push_eq {H : AHeap} {b : ABlk} {l : Nat} (h : l ≤ H.next) (h' : H.next ≤ l) : (H.push b).get l = some b := by
  obtain rfl : l = H.next := by omega
  exact AHeap.get_push_same H b
theorem AHeap.push_set_eq {H : AHeap} {b c : ABlk} {l : Nat} (h : l ≤ H.next) (h' : H.next ≤ l) : (H.push b).set l c = H.push c := by
  obtain rfl : l = H.next := by omega
  exact AHeap.push_set H b c
def Mut (S : Nat → Prop) (H H' : AHeap) : Prop := H.next ≤ H'.next ∧ ∀ l, l < H.next → ¬ S l → H'.get l = H.get l
def Pur (H H' : AHeap) : Prop := H.next ≤ H'.next ∧ ∀ l, l < H.next → H'.get l = H.get l
theorem Pur.refl (H : AHeap) : Pur H H := ⟨Nat.le_refl _, fun _ _ => rfl⟩
theorem Pur.trans {H H1 H2 : AHeap} (h : Pur H H1) (k : Pur H1 H2) : Pur H H2 := ⟨Nat.le_trans h.1 k.1, fun l hl => (k.2 l (Nat.lt_of_lt_of_le hl h.1)).trans (h.2 l hl)⟩
theorem Pur.push (H : AHeap) (b : ABlk) : Pur H (H.push b) := ⟨by simp, fun l hl => AHeap.get_push_other (by omega)⟩
theorem Pur.then_push {H H1 : AHeap} (h : Pur H H1) (b : ABlk) : Pur H (H1.push b) := h.trans (Pur.push H1 b)
theorem Pur.then_set {H H1 : AHeap} (h : Pur H H1) {l : Nat} (hl : H.next ≤ l) (b : ABlk) : Pur H (H1.set l b) :=
  ⟨h.1, fun j hj => by rw [AHeap.get_set_other (by omega)]; exact h.2 j hj⟩
theorem Pur.get {H H' : AHeap} (h : Pur H H') {l : Nat} {b : ABlk} (hb : H.get l = some b) : H'.get l = some b := by rw [h.2 l (AHeap.get_lt hb)]; exact hb
theorem Pur.mut {H H' : AHeap} (h : Pur H H') (S : Nat → Prop) : Mut S H H' := ⟨h.1, fun l hl _ => h.2 l hl⟩
theorem Mut.refl (S : Nat → Prop) (H : AHeap) : Mut S H H := (Pur.refl H).mut S
theorem Mut.trans {S : Nat → Prop} {H H1 H2 : AHeap} (h : Mut S H H1) (k : Mut S H1 H2) : Mut S H H2 := ⟨Nat.le_trans h.1 k.1, fun l hl hs => (k.2 l (Nat.lt_of_lt_of_le hl h.1) hs).trans (h.2 l hl hs)⟩
theorem Mut.then_push {S : Nat → Prop} {H H1 : AHeap} (h : Mut S H H1) (b : ABlk) : Mut S H (H1.push b) := h.trans ((Pur.push H1 b).mut S)
theorem Mut.then_set {S : Nat → Prop} {H H1 : AHeap} (h : Mut S H H1) {l : Nat} (hl : S l ∨ H.next ≤ l) (b : ABlk) : Mut S H (H1.set l b) :=
  ⟨h.1, fun j hj hs => by rw [AHeap.get_set_other (by rintro rfl; exact hl.elim hs (by omega))]; exact h.2 j hj hs⟩
theorem Mut.get {S : Nat → Prop} {H H' : AHeap} (h : Mut S H H') {l : Nat} {b : ABlk} (hb : H.get l = some b) (hs : ¬ S l) : H'.get l = some b := by rw [h.2 l (AHeap.get_lt hb) hs]; exact hb
section
variable {P : Program} {H : AHeap}
theorem xb_some (v : AV) (k : AV → O) : xb (some v) k = k v := rfl
theorem xif_bool (b : Bool) (x y : O) : xif (some (.bool b)) x y = bif b then x else y := rfl
theorem xcall_some {v : AV} {H' : AHeap} {k : AV → AHeap → O} (h : H.next ≤ H'.next) : xcall H (some (v, H')) k = k v H' := by
  simp only [xcall, decide_eq_true h, cond_true]
theorem xstore_some {H' : AHeap} {k : AHeap → O} (h : H.next ≤ H'.next) : xstore H (some H') k = k H' := by
  simp only [xstore, Option.bind_some]; exact xcall_some h
theorem xmake_some (v : AV) (b : ABlk) (k : AV → AHeap → O) : xmake H (some (v, b)) k = k v (H.push b) := rfl
theorem xg_tt (m : (K → O) → O) (k : AV → AHeap → O) : xg (.bool true) true H m k = m (fun x => xk x.val (x.heap H) k) := rfl
theorem xg_ff (m : (K → O) → O) (k : AV → AHeap → O) : xg (.bool false) false H m k = m (fun x => xk x.val (x.heap H) k) := rfl
theorem xg_tf (m : (K → O) → O) (k : AV → AHeap → O) : xg (.bool true) false H m k = k (.tuple []) H := rfl
theorem xg_ft (m : (K → O) → O) (k : AV → AHeap → O) : xg (.bool false) true H m k = k (.tuple []) H := rfl
theorem xg_sk (w : Bool) (m : (K → O) → O) (k : AV → AHeap → O) : xg (.tuple []) w H m k = k (.tuple []) H := rfl
theorem xboth_some (v : AV) (b : Option AV) (k : K → O) : xboth (some v) b k = k (.pure v) := rfl
theorem pickOf_t (a b : Option AV) : pickOf (.bool true) a b = a := rfl
theorem pickOf_f (a b : Option AV) : pickOf (.bool false) a b = b := rfl
theorem aun_not (b : Bool) : aun .not (.bool b) = some (.bool (!b)) := rfl
theorem anil_ptr (l i c : Nat) : anil (.ptr l i c) = some (.ptr l i c) := rfl
theorem K_val_pure (v : AV) : (K.pure v).val = v := rfl
theorem K_val_read (v : AV) : (K.read v).val = v := rfl
theorem K_val_new (v : AV) (b : ABlk) : (K.new v b).val = v := rfl
theorem K_val_eff (v : AV) (H' : AHeap) : (K.eff v H').val = v := rfl
theorem K_val_skip : K.skip.val = .tuple [] := rfl
theorem K_heap_pure (v : AV) : (K.pure v).heap H = H := rfl
theorem K_heap_read (v : AV) : (K.read v).heap H = H := rfl
theorem K_heap_new (v : AV) (b : ABlk) : (K.new v b).heap H = H.push b := rfl
theorem K_heap_eff (v : AV) (H' : AHeap) : (K.eff v H').heap H = H' := rfl
theorem K_heap_skip : K.skip.heap H = H := rfl
theorem aextract_tuple (vs : List AV) (i : Nat) : aextract (.tuple vs) i = vs[i]? := rfl
theorem fbin_add (t : TypeId) (c : Bool) (k : IntKind) (a b : Int) : fbin P .add t c (.int k a) (.int k b) = some (.int k (k.wrap (a + b))) := by simp [fbin, intBin]
theorem fbin_sub (t : TypeId) (c : Bool) (k : IntKind) (a b : Int) : fbin P .sub t c (.int k a) (.int k b) = some (.int k (k.wrap (a - b))) := by simp [fbin, intBin]
theorem fbin_mul (t : TypeId) (c : Bool) (k : IntKind) (a b : Int) : fbin P .mul t c (.int k a) (.int k b) = some (.int k (k.wrap (a * b))) := by simp [fbin, intBin]
theorem fbin_eql (t : TypeId) (c : Bool) (k : IntKind) (a b : Int) : fbin P .eql t c (.int k a) (.int k b) = some (.bool (a == b)) := by simp [fbin, intBin]
theorem fbin_neq (t : TypeId) (c : Bool) (k : IntKind) (a b : Int) : fbin P .neq t c (.int k a) (.int k b) = some (.bool (a != b)) := by simp [fbin, intBin]
theorem fbin_lss (t : TypeId) (c : Bool) (k : IntKind) (a b : Int) : fbin P .lss t c (.int k a) (.int k b) = some (.bool (decide (a < b))) := by simp [fbin, intBin]
theorem fbin_leq (t : TypeId) (c : Bool) (k : IntKind) (a b : Int) : fbin P .leq t c (.int k a) (.int k b) = some (.bool (decide (a ≤ b))) := by simp [fbin, intBin]
theorem fbin_gtr (t : TypeId) (c : Bool) (k : IntKind) (a b : Int) : fbin P .gtr t c (.int k a) (.int k b) = some (.bool (decide (b < a))) := by simp [fbin, intBin]
theorem fbin_geq (t : TypeId) (c : Bool) (k : IntKind) (a b : Int) : fbin P .geq t c (.int k a) (.int k b) = some (.bool (decide (b ≤ a))) := by simp [fbin, intBin]
theorem fbin_seql (t : TypeId) (c : Bool) (a b : List UInt8) : fbin P .eql t c (.str a) (.str b) = some (.bool (a == b)) := rfl
theorem fbin_sneq (t : TypeId) (c : Bool) (a b : List UInt8) : fbin P .neq t c (.str a) (.str b) = some (.bool (!(a == b))) := rfl
theorem fbin_sadd (t : TypeId) (c : Bool) (a b : List UInt8) (h : a.length + b.length ≤ 9223372036854775807) : fbin P .add t c (.str a) (.str b) = some (.str (a ++ b)) := by
  simp only [fbin, strBin, if_pos h]
theorem st_any {t : TypeId} {n : Nat} (hn : tySize P t = some n) {l i c esz : Nat} {els : List (List AV)} {e : List AV} {v : AV} (h : H.get l = some (.row false esz els)) (he : els[i]? = some e) (hv : v.cells.length = n) (ho : v.cells.all AV.one = true) (hc : c + n ≤ esz) :
    astore P H t (.ptr l i c) v = some (H.set l (.row false esz (els.set i (splice e c v.cells)))) := by
  simp only [astore, h, he]
  rw [if_pos ⟨by rw [hn, hv], by rw [hv]; exact hc, ho⟩]
theorem one_int (k : IntKind) (n : Int) : (AV.int k n).one = true := rfl
theorem one_str (x : List UInt8) : (AV.str x).one = true := rfl
theorem one_bool (x : Bool) : (AV.bool x).one = true := rfl
theorem one_ptr (l i c : Nat) : (AV.ptr l i c).one = true := rfl
theorem one_sl (l i n e : Nat) (c : Option Nat) : (AV.sl l i n e c).one = true := rfl
theorem one_nilSl : AV.nilSl.one = true := rfl
theorem one_func (f : Fn) (a c : List AV) : (AV.func f a c).one = true := rfl
theorem cells_one {v : AV} (h : v.one = true) : v.cells = [v] := by cases v <;> first | rfl | cases h
theorem boxOf_agg (l : Nat) (cs : List AV) (h : cs.all AV.one = true) : boxOf l (.agg cs) = some (.ptr l 0 0, .row false cs.length [cs]) := by
  simp only [boxOf, AV.cells, h, cond_true]
end
end Go.Ev

namespace Go.Proofs.YtghmbpmaafnodaaGreatDoor
open Go.Ev
noncomputable def P : Program := Tryz.prog
noncomputable abbrev rC (f : Func) : Kc := retC P f.results.toList
noncomputable abbrev cF (f : Func) (G : CallT) (N : Nat) : Kc := codeC P G N (bodyOf f) (rC f) [] (rC f)
theorem via_trans {A B C : Kc} (h : ∀ R H, A R H = B R H) (h2 : ∀ R H, B R H = C R H) : ∀ R H, A R H = C R H := fun R H => (h R H).trans (h2 R H)
theorem via_top {A B : Kc} {R : Rf} {H : AHeap} {t : O} (h : ∀ R H, A R H = B R H) (h2 : B R H = t) : A R H = t := (h R H).trans h2
def xst (H : AHeap) (r : Option AHeap) (k : AV → AHeap → O) : O := xcall H (r.bind fun H' => some (.tuple [], H')) k
theorem xst_some {H H' : AHeap} {k : AV → AHeap → O} (h : H.next ≤ H'.next) : xst H (some H') k = k (.tuple []) H' := by
 simp only [xst, Option.bind_some]; exact xcall_some h
 @[congr] theorem xst_cg {H H2 : AHeap} {h h' : Option AHeap} {z : Nat} {k : AV → AHeap → O} (d : H = H2) (e : h = h') (_y : zA = z) : xst H h k = xst H2 h' k := by rw [d, e]
def tab0 : List (List AV) := Lib.asciiSpaceTab.map fun n => [.int .u8 n]
def E0 : Env := fun l => match l with
 | 0 => some ⟨0, 0, 1, 256⟩
 | 1 => some ⟨4, 0, 1, 1⟩
 | _ => none
def row1 : List (List AV) := [[.iface 191 (.ptr 2 0 0)]]
open Classical in
noncomputable def orc : CallT := fun f args H => match f, args with
 | 66, [.str s, .int .u8 c] => some (.int .i64 (Lib.indexByte s c.toNat.toUInt8), H)
 | 100, [.str s] => if s.length < 4294967281 ∧ (∀ (j : Nat) b, s[j]? = some b → b.toNat < 128) ∧ H.get 0 = some (.row true 1 tab0) then
   some (.sl H.next 0 (Lib.fields s).length 1 (some (Lib.fields s).length), H.push (.row false 1 ((Lib.fields s).map fun l => [.str l]))) else none
 | 99, [.str s] => if s.length ≤ 281474976710656 ∧ H.get 1 = some (.row true 1 row1) then
   (match Lib.atoiAll s with
   | .ok v => some (.tuple [.int .i64 v, .nilIface], H)
   | .range => some (.tuple [.int .i64 (Lib.atoiSat s), .iface 152 (.ptr H.next 0 0)], H.push .dead)
   | _ => none) else none
 | _, _ => none
theorem runF {f : Nat} {fn : Func} {N : Nat} {args : List AV} {H : AHeap} {r : AV × AHeap} (hO : orc f args H = none) (hf : P.funcs[f]? = some fn) (hb : fn.body = some (bodyOf fn)) (hd : dstsOk fn.ntmps (bodyOf fn) = true) (hn : Nat.ble args.length fn.ntmps = true) (h : cF fn (evw P orc) N (argsF args) H = some r) : evw P orc f args H = some r := evw_code hO hf hb hd hn h
end Go.Proofs.YtghmbpmaafnodaaGreatDoor

namespace Go.Ev
theorem Tr.putP_comm {α : Type} (x y : α) : ∀ (p q : List D8) (t : Tr α), p ≠ q → Tr.putP x p (Tr.putP y q t) = Tr.putP y q (Tr.putP x p t)
  | [], [], _, h => absurd rfl h
  | [], d :: q, .leaf, _ => by cases d <;> simp [Tr.putP]
  | [], d :: q, .node .., _ => by cases d <;> simp [Tr.putP]
  | d :: p, [], .leaf, _ => by cases d <;> simp [Tr.putP]
  | d :: p, [], .node .., _ => by cases d <;> simp [Tr.putP]
  | d :: p, e :: q, .leaf, h => by
    by_cases hd : d = e
    · subst hd
      have ih := Tr.putP_comm x y p q .leaf (fun hh => h (by rw [hh]))
      cases d <;> simp [Tr.putP, ih]
    · cases d <;> cases e <;> first | exact absurd rfl hd | simp [Tr.putP]
  | d :: p, e :: q, .node v c0 c1 c2 c3 c4 c5 c6 c7, h => by
    by_cases hd : d = e
    · subst hd
      have ih := fun c => Tr.putP_comm x y p q c (fun hh => h (by rw [hh]))
      cases d <;> simp [Tr.putP, ih]
    · cases d <;> cases e <;> first | exact absurd rfl hd | simp [Tr.putP]
theorem AHeap.push_set_lt {H : AHeap} {b c : ABlk} {l : Nat} (h : l < H.next) : (H.push b).set l c = (H.set l c).push b := by
  simp only [AHeap.push, AHeap.set, Tr.put]
  rw [Tr.putP_comm _ _ _ _ _ (fun e => by have := path_inj e; omega)]
theorem W_bif {c : Bool} {a b : O} {Q : AV → AHeap → Prop} (hc : c = true) (h : W a Q) : W (bif c then a else b) Q := by rw [hc]; exact h
def traceH : List Tc → AHeap → List AHeap
  | [], H => [H]
  | t :: ts, H => H :: traceH ts (t.k.heap H)
theorem winC_true {ms : List Nat} {rd : AHeap → Bool} {i : Nat} : ∀ (T : List Tc) (H : AHeap), (∀ H' ∈ traceH T H, rd H' = true) → winC ms rd i T H = true
  | [], H, h => h H (by simp [traceH])
  | t :: ts, H, h => by
    have h0 := h H (by simp [traceH])
    have ih := winC_true (ms := ms) (rd := rd) (i := i) ts (t.k.heap H) (fun H' hm => h H' (by simp [traceH, hm]))
    rw [winC]
    cases hk : t.k.isHeap with
    | true => simp [h0, ih]
    | false =>
      have : t.k.heap H = H := by cases hh : t.k <;> simp [hh, K.isHeap, K.heap] at hk ⊢
      rw [this] at ih
      simp [ih]
theorem seeC_true {ms : List Nat} {rd : AHeap → Bool} {i : Nat} {T : List Tc} {H : AHeap} (h : ∀ H' ∈ traceH T H, rd H' = true) : seeC ms rd i T H = true := by
  rw [seeC, winC_true T H h]; cases candC ms i T false <;> rfl
def winsP (ez : List Nat) (T : List Tc) (H : AHeap) : List Tc → Prop
  | [] => True
  | t :: ts => (∀ v, t.k = .read v → ez.contains t.i = true ∨ ∀ H' ∈ traceH T H, rdIs (t.rd H') v = true) ∧ winsP ez T H ts
theorem winsC_true {ms ez : List Nat} {T : List Tc} {H : AHeap} : ∀ S : List Tc, winsP ez T H S → winsC ms ez T H S = true
  | [], _ => rfl
  | t :: ts, h => by
    rw [winsP] at h
    rw [winsC, winsC_true ts h.2, Bool.and_true]
    split
    · rename_i v hk
      rcases h.1 v hk with h1 | h1
      · rw [h1, Bool.true_or]
      · rw [seeC_true h1, Bool.or_true]
    · rfl
theorem dchk_true {ms ez : List Nat} {T : List Tc} {H : AHeap} (h1 : effC ms T [] = true) (h2 : winsP ez T H T) : dchk ms ez T H = true := by
  rw [dchk, h1, winsC_true T h2]; rfl
section
variable {E : Env} {P : Program} {orc : CallT}
theorem evCode_ok1 (hP : ProgOk P) {G : CallT} (hG : CallOk E P G) {N f : Nat} {args : List AV} {H H1 : AHeap} {fn : Func} {c : Code} {ex : Ex} {R : Regs} {vs : List AV}
    (hfn : P.funcs[f]? = some fn) (hc : fn.body = some c) (hev : evCode (regRun P G) N c (Regs.enter fn.ntmps args) H = some (ex, R, H1)) (hne : ∀ id, ex ≠ .exit id) (hvs : ares P R H1 fn.results.toList = some vs) : CallOk1 E P f args H (aone vs) H1 := by
  intro ρ w xs hR hf hargs hn next hnext
  have hcode := evCode_sound (N := N) regRun_mono (regRun_sound hP.mixed hG) c (hP.plans _ _ _ hfn hc)
  have hname : (fn.name == "runtime.NumGoroutine") = false := hP.names fn (Array.mem_of_getElem? hfn)
  have hrun : (callFunc f xs.toArray).run P w = .ok (.enter f xs.toArray) w := by
    unfold callFunc
    simp [hfn, hc]
    intro hh
    simp [hh] at hname
  unfold Upon
  rw [hrun]
  simp only
  refine calls_of_wp hfn hc (hcode _ _ _ _ _ hev ρ w _ _ hR hf (enter_rel hargs fn.ntmps) fun ρ' a' w' h1 h2 => ?_)
  obtain ⟨x, e1, e2⟩ := results_sound h2.rel h1 hvs
  have hnx := hnext x w' ρ' e2 h2
  cases ex with
  | normal => exact ⟨h1.none, x, e1, hnx⟩
  | ret => exact ⟨h1.none, x, e1, hnx⟩
  | exit id => exact absurd rfl (hne id)
theorem code_ok1 (hP : ProgOk P) {G : CallT} (hG : CallOk E P G) {f : Nat} {args : List AV} {H : AHeap} {fn : Func} {c : Code} {M : Nat} {r : AV × AHeap} (hf : P.funcs[f]? = some fn) (hb : fn.body = some c) (hd : dstsOk fn.ntmps c = true) (hn : Nat.ble args.length fn.ntmps = true)
    (h : codeC P G M c (retC P fn.results.toList) [] (retC P fn.results.toList) (argsF args) H = some r) : CallOk1 E P f args H r.1 r.2 := by
  have hs : (Regs.enter fn.ntmps args).size = fn.ntmps := by have := Nat.le_of_ble_eq_true hn; simp only [Regs.enter]; omega
  rw [← argsF_eq fn.ntmps, codeC_eq c _ _ _ _ _ (by rw [hs]; exact hd)] at h
  unfold endC at h
  have fin : ∀ (R : Regs) (H' : AHeap), retC P fn.results.toList R.get H' = some r → ∃ vs, ares P R H' fn.results.toList = some vs ∧ r = (aone vs, H') := by
    intro R H' hh
    unfold retC at hh
    rw [resC_eq] at hh
    cases ha : ares P R H' fn.results.toList with
    | none => rw [ha] at hh; cases hh
    | some vs => rw [ha] at hh; exact ⟨vs, rfl, (Option.some.inj hh).symm⟩
  split at h
  · rename_i R H' he
    obtain ⟨vs, h1, rfl⟩ := fin R H' h
    exact evCode_ok1 hP hG hf hb he (fun id => by intro hh; cases hh) h1
  · cases h
  · rename_i R H' he
    obtain ⟨vs, h1, rfl⟩ := fin R H' h
    exact evCode_ok1 hP hG hf hb he (fun id => by intro hh; cases hh) h1
  · cases h
theorem Rel.keepAll {ρ : Env} {H : AHeap} {w w' : World} (h : Rel ρ H w) (hk : ∀ b, b < w.heap.size → w'.heap[b]? = w.heap[b]?) : Rel ρ H w' := by
  have key : ∀ b x, w.heap[b]? = some x → w'.heap[b]? = some x := fun b x e => by
    rw [hk b ?_]; exact e
    exact (Array.getElem?_eq_some_iff.1 e).1
  refine ⟨fun l ro esz els e => ?_, fun l es e => ?_, h.apart⟩
  · obtain ⟨loc, h1, h2, c, t, fz, h3, h4⟩ := h.row l ro esz els e
    exact ⟨loc, h1, h2, c, t, fz, key _ _ h3, h4⟩
  · obtain ⟨loc, h1, ents, clock, h3, h4⟩ := h.map l es e
    exact ⟨loc, h1, ents, clock, key _ _ h3, h4⟩
theorem AHeap.empty_get (l : Nat) : AHeap.empty.get l = none := by
  cases h : AHeap.empty.get l with
  | none => rfl
  | some b => exact absurd (AHeap.get_lt h) (Nat.not_lt_zero l)
theorem rel_empty (w : World) : Rel (fun _ => none) AHeap.empty w := by
  refine ⟨fun l ro esz els e => ?_, fun l es e => ?_, fun l l' loc loc' _ _ _ h => ?_⟩
  · rw [AHeap.empty_get] at e; cases e
  · rw [AHeap.empty_get] at e; cases e
  · cases h
end
end Go.Ev

namespace Go.Proofs.YtghmbpmaafnodaaGreatDoor
open Go.Ev
def namesOk (fs : List Func) : Bool := fs.all fun fn => !(fn.name == "runtime.NumGoroutine")
def bodiesOk (fs : List Func) : Bool := fs.all fun fn => match fn.body with
 | some c => plansOk c
 | none => true
theorem progOk_of {P : Program} (h1 : P.follows .mixedOrders = true) (h2 : namesOk P.funcs.toList = true) (h3 : bodiesOk P.funcs.toList = true) : ProgOk P := by
 refine ⟨h1, fun fn hfn => ?_, fun f fn c hf hc => ?_⟩
 ·have := List.all_eq_true.1 h2 fn (Array.mem_toList_iff.2 hfn)
  simpa using this
 ·have := List.all_eq_true.1 h3 fn (Array.mem_toList_iff.2 (Array.mem_of_getElem? hf))
  simpa [hc] using this
set_option maxRecDepth 1000000
theorem progOk : ProgOk P := progOk_of (by kernel_rfl) (by kernel_rfl) (by kernel_rfl)
end Go.Proofs.YtghmbpmaafnodaaGreatDoor
