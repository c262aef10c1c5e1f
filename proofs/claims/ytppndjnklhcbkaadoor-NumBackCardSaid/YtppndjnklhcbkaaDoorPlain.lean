/-
  Plain facts on decimal texts: what strconv.Itoa writes, strconv.Atoi reads back; no text of Itoa has a leading nought, a plus sign or a trailing space.
-/
import Derived.Lib.AtoiAll
import Derived.Lib.ItoaNum
namespace Go.Proofs.YtppndjnklhcbkaaDoor

theorem dig_toNat (k : Nat) (h : k < 10) : (UInt8.ofNat (48 + k)).toNat = 48 + k := by
  rw [UInt8.toNat_ofNat']; omega

theorem dec_small {u : Nat} (h : u < 10) : Lib.decDigits u = [UInt8.ofNat (48 + u)] := by rw [Lib.decDigits, dif_pos h]
theorem dec_big {u : Nat} (h : ¬ u < 10) : Lib.decDigits u = Lib.decDigits (u / 10) ++ [UInt8.ofNat (48 + u % 10)] := by rw [Lib.decDigits, dif_neg h]

theorem dec_ne (u : Nat) : Lib.decDigits u ≠ [] := by
  by_cases h : u < 10
  · rw [dec_small h]; simp
  · rw [dec_big h]; simp

theorem parse_step (acc d : Nat) (hd : d < 10) (r : List UInt8) (h : acc * 10 + d < 18446744073709551616) :
    Lib.parseUint10 acc (UInt8.ofNat (48 + d) :: r) = Lib.parseUint10 (acc * 10 + d) r := by
  rw [Lib.parseUint10, dig_toNat d hd, if_pos (by omega), if_neg (by omega), show 48 + d - 48 = d by omega, if_neg (by omega)]

theorem parse_dec (u : Nat) (hu : u < 18446744073709551616) : ∀ r, Lib.parseUint10 0 (Lib.decDigits u ++ r) = Lib.parseUint10 u r := by
  induction u using Nat.strongRecOn with
  | _ u ih =>
    intro r
    by_cases h : u < 10
    · rw [dec_small h, List.singleton_append, parse_step 0 u h r (by omega)]; simp
    · rw [dec_big h, List.append_assoc, ih (u / 10) (by omega) (by omega), List.singleton_append, parse_step (u / 10) (u % 10) (by omega) r (by omega)]
      rw [show u / 10 * 10 + u % 10 = u by omega]

theorem dec_head (u : Nat) : ∃ c r, Lib.decDigits u = c :: r ∧ 48 ≤ c.toNat ∧ c.toNat ≤ 57 ∧ (r ≠ [] → c.toNat ≠ 48) := by
  induction u using Nat.strongRecOn with
  | _ u ih =>
    by_cases h : u < 10
    · exact ⟨_, [], dec_small h, by rw [dig_toNat u h]; omega, by rw [dig_toNat u h]; omega, fun h => absurd rfl h⟩
    · obtain ⟨c, r, he, h1, h2, h3⟩ := ih (u / 10) (by omega)
      refine ⟨c, r ++ [UInt8.ofNat (48 + u % 10)], by rw [dec_big h, he]; rfl, h1, h2, fun _ => ?_⟩
      by_cases hr : r = []
      · subst hr
        by_cases h' : u / 10 < 10
        · rw [dec_small h'] at he
          have : c = UInt8.ofNat (48 + u / 10) := by simpa using he.symm
          rw [this, dig_toNat _ h']; omega
        · rw [dec_big h'] at he
          have hlen := congrArg List.length he
          have hne := dec_ne (u / 10 / 10)
          have hpos : 1 ≤ (Lib.decDigits (u / 10 / 10)).length := by cases hx : Lib.decDigits (u / 10 / 10) with | nil => exact absurd hx hne | cons _ _ => simp
          rw [List.length_append] at hlen
          simp only [List.length_cons, List.length_nil] at hlen
          omega
      · exact h3 hr

theorem dec_last (u : Nat) : ∃ r d, Lib.decDigits u = r ++ [UInt8.ofNat (48 + d)] ∧ d < 10 := by
  by_cases h : u < 10
  · exact ⟨[], u, dec_small h, h⟩
  · exact ⟨_, u % 10, dec_big h, by omega⟩

theorem itoa_back (n : Int) (h0 : -9223372036854775808 ≤ n) (h1 : n ≤ 9223372036854775807) : Lib.atoiAll (Lib.itoa n) = .ok n := by
  unfold Lib.itoa
  split
  · rename_i hn
    have hp := parse_dec n.natAbs (by omega) []
    rw [List.append_nil] at hp
    simp only [Lib.atoiAll, Lib.parseMag]
    have e45 : (45 : UInt8).toNat = 45 := rfl
    rw [if_pos (show UInt8.toNat 45 = 43 ∨ UInt8.toNat 45 = 45 from .inr e45), if_neg (dec_ne _), hp]
    simp only [Lib.parseUint10]
    rw [if_neg (by simp), if_neg (by simp; omega), if_pos (by decide)]
    congr 1; omega
  · rename_i hn
    obtain ⟨c, r, he, h2, h3, _⟩ := dec_head n.toNat
    have hp := parse_dec n.toNat (by omega) []
    rw [List.append_nil] at hp
    rw [he] at hp ⊢
    simp only [Lib.atoiAll, Lib.parseMag]
    rw [if_neg (show ¬ (c.toNat = 43 ∨ c.toNat = 45) by omega), if_neg (by simp), hp]
    simp only [Lib.parseUint10]
    rw [if_neg (by omega), if_neg (by omega), if_neg (by omega)]
    congr 1; omega

theorem itoa_head (n : Int) : ∃ c r, Lib.itoa n = c :: r ∧ (c.toNat = 45 ∨ 48 ≤ c.toNat ∧ (r ≠ [] → c.toNat ≠ 48)) := by
  unfold Lib.itoa
  split
  · exact ⟨_, _, rfl, .inl rfl⟩
  · obtain ⟨c, r, he, h2, h3, h4⟩ := dec_head n.toNat
    exact ⟨c, r, he, .inr ⟨h2, h4⟩⟩

theorem itoa_nought (n v : Int) : Lib.itoa v ≠ 48 :: Lib.itoa n := by
  intro h
  obtain ⟨c, r, he, hc⟩ := itoa_head v
  obtain ⟨c', r', he', _⟩ := itoa_head n
  rw [he, he'] at h
  simp only [List.cons.injEq] at h
  obtain ⟨rfl, rfl⟩ := h
  rcases hc with hc | ⟨_, hc⟩
  · exact absurd hc (by decide)
  · exact hc (by simp) rfl

theorem itoa_plus (n v : Int) : Lib.itoa v ≠ 43 :: Lib.itoa n := by
  intro h
  obtain ⟨c, r, he, hc⟩ := itoa_head v
  rw [he] at h
  simp only [List.cons.injEq] at h
  obtain ⟨rfl, _⟩ := h
  rcases hc with hc | ⟨hc, _⟩
  · exact absurd hc (by decide)
  · exact absurd hc (by decide)

theorem itoa_behind (n v : Int) : Lib.itoa v ≠ Lib.itoa n ++ [32] := by
  intro h
  have hl : ∃ r d, Lib.itoa v = r ++ [UInt8.ofNat (48 + d)] ∧ d < 10 := by
    unfold Lib.itoa
    split
    · obtain ⟨r, d, he, hd⟩ := dec_last v.natAbs
      exact ⟨45 :: r, d, by rw [he]; rfl, hd⟩
    · exact dec_last v.toNat
  obtain ⟨r, d, he, hd⟩ := hl
  rw [he] at h
  have := (List.append_inj' h rfl).2
  simp only [List.cons.injEq, and_true] at this
  have h2 := congrArg UInt8.toNat this
  rw [dig_toNat d hd] at h2
  have : (32 : UInt8).toNat = 32 := rfl
  omega

theorem itoa_len (n : Int) (h0 : -9223372036854775808 ≤ n) (h1 : n ≤ 9223372036854775807) : (Lib.itoa n).length ≤ 21 := by
  have key : ∀ k u, u < 10 ^ (k + 1) → (Lib.decDigits u).length ≤ k + 1 := by
    intro k
    induction k with
    | zero => intro u hu; rw [dec_small (by simpa using hu)]; simp
    | succ k ih =>
      intro u hu
      by_cases h : u < 10
      · rw [dec_small h]; simp
      · rw [dec_big h]
        have := ih (u / 10) (by rw [Nat.pow_succ] at hu; omega)
        simp; omega
  unfold Lib.itoa
  split
  · have := key 19 n.natAbs (by omega)
    simp; omega
  · have := key 19 n.toNat (by omega)
    omega

/-- What num.Parse reads: the number whose own text it is. -/
def parseOk (l : List UInt8) : Option Int :=
  match Lib.atoiAll l with
  | .ok v => if Lib.itoa v = l then some v else none
  | _ => none

theorem parseOk_itoa (n : Int) (h0 : -9223372036854775808 ≤ n) (h1 : n ≤ 9223372036854775807) : parseOk (Lib.itoa n) = some n := by
  simp [parseOk, itoa_back n h0 h1]
theorem parseOk_none (l : List UInt8) (h : ∀ v, Lib.itoa v ≠ l) : parseOk l = none := by
  unfold parseOk; split <;> simp [h]
end Go.Proofs.YtppndjnklhcbkaaDoor
