/-
  Texts of one proof, laid together: Fv7 Fv8 Fv9 Fv10 Fv11.
-/
import Derived.Test.YtghmbpmaafnodaaGreatDoorMA
import Derived.Deep.AppendSrc
import Derived.Orders
set_option linter.unusedVariables false
set_option linter.unusedSimpArgs false
namespace Go.Ev
section
variable {P : Program} {ρ : Env} {H : AHeap} {w : World}
def afield (P : Program) (t : TypeId) (x : AV) (f : Nat) : Option AV :=
  match P.underlying t, x with
  | some (.struct fs), .agg cs => (match fs[f]? with | some d => apart P d.type cs d.offset | none => none)
  | _, _ => none
theorem afield_sound {t : TypeId} {x v : AV} {x' : Value} {f : Nat} (h : afield P t x f = some v) (hx : VRel ρ x x') (w : World) : ∃ r, (Instr.field t x' f).run P w = .ok r w ∧ VRel ρ v r := by
  unfold afield at h
  split at h
  · rename_i fs cs hu
    cases hx with | agg _ xs hc =>
    split at h
    · rename_i d hd
      obtain ⟨r, h1, h2⟩ := apart_sound h hc w
      exact ⟨r, by simp [Instr.field, run_underlying hu, hd, asAgg, h1], h2⟩
    · cases h
  · cases h
def afieldAddr (P : Program) (t : TypeId) (x : AV) (f : Nat) : Option AV :=
  match P.underlying t, x with
  | some (.struct fs), .ptr l i c => (match fs[f]? with | some d => (match tySize P d.type with | some n => if n = 0 then none else some (.ptr l i (c + d.offset)) | none => none) | none => none)
  | _, _ => none
theorem afieldAddr_sound {t : TypeId} {x v : AV} {x' : Value} {f : Nat} (h : afieldAddr P t x f = some v) (hx : VRel ρ x x') (w : World) : ∃ r, (Instr.fieldAt t x' f).run P w = .ok r w ∧ VRel ρ v r := by
  unfold afieldAddr at h
  split at h
  · rename_i fs l i c hu
    cases hx with | ptr _ _ _ loc hl =>
    split at h
    · rename_i d hd
      split at h
      · rename_i n hn
        split at h
        · cases h
        · rename_i h0
          simp only [Option.some.injEq] at h; subst h
          refine ⟨_, ?_, .ptr l i (c + d.offset) loc hl⟩
          simp [Instr.fieldAt, run_underlying hu, hd, Instr.sureAddr, fieldPlace, run_sizeOf hn, h0, addr_add, Nat.add_assoc]
      · cases h
    · cases h
  · cases h
def aindexAddr (P : Program) (t : TypeId) (x ix : AV) : Option AV :=
  match P.underlying t, x, ix with
  | some (.slice e), .sl l i n esz _, .int _ k => (match tySize P e with | some sz => if sz = esz ∧ 0 ≤ k ∧ k < n then some (.ptr l (i + k.toNat) 0) else none | none => none)
  | some (.array len e), .ptr l i c, .int _ k => (match tySize P e with | some sz => if 0 ≤ k ∧ k < len then some (.ptr l i (c + k.toNat * sz)) else none | none => none)
  | _, _, _ => none
theorem aindexAddr_sound {t : TypeId} {x ix v : AV} {x' ix' : Value} (h : aindexAddr P t x ix = some v) (hx : VRel ρ x x') (hi : VRel ρ ix ix') (w : World) : ∃ r, (Instr.indexAt t x' ix').run P w = .ok r w ∧ VRel ρ v r := by
  unfold aindexAddr at h
  split at h
  · rename_i e l i n esz cap kk k hu
    cases hi
    cases hx with | sl _ _ _ _ loc a c hl hn hc ha =>
    split at h
    · rename_i sz hsz
      split at h
      · rename_i hcond
        obtain ⟨rfl, h0, h1⟩ := hcond
        simp only [Option.some.injEq] at h; subst h
        obtain ⟨rfl, _⟩ := ha (by omega)
        refine ⟨_, ?_, .ptr l (i + k.toNat) 0 loc hl⟩
        have e1 : loc.off + i * loc.esz + k.toNat * loc.esz = loc.off + (i + k.toNat) * loc.esz + 0 := by rw [Nat.add_mul]; omega
        simp [Instr.indexAt, asIntOf, run_underlying hu, h0, h1, run_sizeOf hsz, addr_add]
      · cases h
    · cases h
  · rename_i len e l i c kk k hu
    cases hi
    cases hx with | ptr _ _ _ loc hl =>
    split at h
    · rename_i sz hsz
      split at h
      · rename_i hcond
        obtain ⟨h0, h1⟩ := hcond
        simp only [Option.some.injEq] at h; subst h
        refine ⟨_, ?_, .ptr l i (c + k.toNat * sz) loc hl⟩
        simp [Instr.indexAt, asIntOf, run_underlying hu, Instr.sureAddr, h0, h1, run_sizeOf hsz, addr_add, Nat.add_assoc]
      · cases h
    · cases h
  · cases h
def aindex (P : Program) (t : TypeId) (x ix : AV) : Option AV :=
  match P.underlying t, x, ix with
  | some .string, .str s, .int _ k => if 0 ≤ k then (match s[k.toNat]? with | some b => some (.int .u8 b.toNat) | none => none) else none
  | some (.array len e), .agg cs, .int _ k => (match tySize P e with | some sz => if 0 ≤ k ∧ k < len then apart P e cs (k.toNat * sz) else none | none => none)
  | _, _, _ => none
theorem bytes_get (s : List UInt8) (k : Nat) : (⟨s.toArray⟩ : ByteArray)[k]? = s[k]? := by
  simp only [getElem?, decidableGetElem?]
  by_cases h : k < s.length
  · have h' : k < (⟨s.toArray⟩ : ByteArray).size := by show k < s.toArray.size; simpa using h
    simp [h, h']; rfl
  · have h' : ¬ k < (⟨s.toArray⟩ : ByteArray).size := by show ¬ k < s.toArray.size; simpa using h
    simp [h, h']
theorem aindex_sound {t : TypeId} {x ix v : AV} {x' ix' : Value} (h : aindex P t x ix = some v) (hx : VRel ρ x x') (hi : VRel ρ ix ix') (w : World) : ∃ r, (Instr.index t x' ix').run P w = .ok r w ∧ VRel ρ v r := by
  unfold aindex at h
  split at h
  · rename_i s kk k hu
    cases hi; cases hx
    split at h
    · rename_i h0
      split at h
      · rename_i b hb
        simp only [Option.some.injEq] at h; subst h
        refine ⟨_, ?_, .int _ _⟩
        simp only [Instr.index, asIntOf, Sem.run_bind, Sem.run_pure, Result.andThen_ok, run_underlying hu, if_pos h0, bytes_get, hb]
      · cases h
    · cases h
  · rename_i len e cs kk k hu
    cases hi
    cases hx with | agg _ xs hc =>
    split at h
    · rename_i sz hsz
      split at h
      · rename_i hcond
        obtain ⟨r, h1, h2⟩ := apart_sound h hc w
        exact ⟨r, by simp [Instr.index, asIntOf, run_underlying hu, hcond, run_sizeOf hsz, h1], h2⟩
      · cases h
    · cases h
  · cases h
def abound (x : Option AV) (dflt y : Nat) : Option Nat :=
  match x with
  | none => some dflt
  | some (.int _ k) => if 0 ≤ k ∧ k ≤ y then some k.toNat else none
  | some _ => none
def aslice (P : Program) (t : TypeId) (x : AV) (lo hi mx : Option AV) : Option AV :=
  match P.underlying t, x with
  | some .string, .str s =>
    (match mx, abound hi s.length s.length with
    | none, some h => (match abound lo 0 h with | some l => some (.str ((s.drop l).take (h - l))) | none => none)
    | _, _ => none)
  | some (.slice e), .sl l i n esz cap =>
    (match tySize P e, mx with
    | some sz, none =>
      if sz = esz then
        (match abound hi n (cap.getD n) with
        | some h => (match abound lo 0 h with | some k => some (.sl l (i + k) (h - k) esz (cap.map (· - k))) | none => none)
        | none => none)
      else none
    | some sz, some m =>
      if sz = esz then
        (match abound (some m) 0 (cap.getD n) with
        | some m => (match hi, abound hi 0 m with
          | some _, some h => (match abound lo 0 h with | some k => some (.sl l (i + k) (h - k) esz (some (m - k))) | none => none)
          | _, _ => none)
        | none => none)
      else none
    | _, _ => none)
  | some (.slice e), .nilSl =>
    (match tySize P e, mx with
    | some _, none => (match abound hi 0 0 with
      | some h => (match abound lo 0 h with | some _ => some .nilSl | none => none)
      | none => none)
    | _, _ => none)
  | _, _ => none
inductive ORel (ρ : Env) : Option AV → Option Value → Prop where
  | none : ORel ρ none none
  | some (v : AV) (x : Value) (h : VRel ρ v x) : ORel ρ (some v) (some x)
theorem abound_some {v : AV} {x : Value} {d y k : Nat} (h : abound (some v) d y = some k) (hx : VRel ρ v x) (code : BoundsCode) {y' : Nat} (hy : y ≤ y') (w : World) :
    (Instr.sliceBound x y' code).run P w = .ok k w ∧ k ≤ y := by
  unfold abound at h
  split at h
  · rename_i hh; cases hh
  · rename_i kk n hh
    cases hh; cases hx
    split at h
    · rename_i hc
      simp only [Option.some.injEq] at h; subst h
      refine ⟨?_, by omega⟩
      simp only [Instr.sliceBound, asIntOf, Sem.run_bind, Sem.run_pure, Result.andThen_ok]
      rw [if_pos (by omega)]; exact Sem.run_pure ..
    · cases h
  · cases h
theorem extract_bytes (s : List UInt8) (l h : Nat) : (⟨s.toArray⟩ : ByteArray).extract l h = ⟨((s.drop l).take (h - l)).toArray⟩ := by
  apply ByteArray.ext
  simp [ByteArray.data_extract, List.extract_eq_take_drop]
theorem aslice_sound {t : TypeId} {x v : AV} {x' : Value} {lo hi mx : Option AV} {lo' hi' mx' : Option Value} (h : aslice P t x lo hi mx = some v) (hx : VRel ρ x x') (hlo : ORel ρ lo lo') (hhi : ORel ρ hi hi') (hmx : ORel ρ mx mx') (w : World) :
    ∃ r, (Instr.sliceAt t x' lo' hi' mx').run P w = .ok r w ∧ VRel ρ v r := by
  unfold aslice at h
  split at h
  · rename_i s hu
    cases hx
    have hsz : (⟨s.toArray⟩ : ByteArray).size = s.length := by show s.toArray.size = _; simp
    split at h
    · rename_i hh hb
      cases hmx
      split at h
      · rename_i l hl
        simp only [Option.some.injEq] at h; subst h
        refine ⟨_, ?_, .str _⟩
        have e1 : ∃ m, (Instr.sliceBounds false s.length s.length lo' hi' none).run P w = .ok (l, hh, m) w := by
          refine ⟨s.length, ?_⟩
          cases hhi with
          | none =>
            simp only [abound, Option.some.injEq] at hb; subst hb
            cases hlo with
            | none => simp only [abound, Option.some.injEq] at hl; subst hl; simp [Instr.sliceBounds]
            | some v x hv => simp [Instr.sliceBounds, (abound_some hl hv _ (Nat.le_refl _) w).1]
          | some v x hv =>
            have := (abound_some (P := P) hb hv .sliceAlen (Nat.le_refl _) w).1
            cases hlo with
            | none => simp only [abound, Option.some.injEq] at hl; subst hl; simp [Instr.sliceBounds, this]
            | some v x hv => simp [Instr.sliceBounds, this, (abound_some hl hv _ (Nat.le_refl _) w).1]
        obtain ⟨m, e1⟩ := e1
        simp [Instr.sliceAt, Instr.slice, run_underlying hu, hsz, e1, extract_bytes]
      · cases h
    · cases h
  · rename_i e l i n esz cap hu
    cases hx with | sl _ _ _ _ loc a c hl hn hc ha =>
    have hcap : cap.getD n ≤ c := by
      cases hcc : cap with
      | none => exact hn
      | some k => have := hc k hcc; simp; omega
    split at h
    · rename_i sz hsz
      cases hmx
      split at h
      · rename_i hse
        subst hse
        split at h
        · rename_i hh hb
          split at h
          · rename_i k hk
            simp only [Option.some.injEq] at h; subst h
            have hhc : hh ≤ c := by
              cases hhi with
              | none => simp only [abound, Option.some.injEq] at hb; omega
              | some v x hv => have := (abound_some (P := P) hb hv .sliceAcap hcap w).2; omega
            have hkh : k ≤ hh := by
              cases hlo with
              | none => simp only [abound, Option.some.injEq] at hk; omega
              | some v x hv => exact (abound_some (P := P) hk hv .sliceB (Nat.le_refl _) w).2
            have e1 : (Instr.sliceBounds true n c lo' hi' none).run P w = .ok (k, hh, c) w := by
              cases hhi with
              | none =>
                simp only [abound, Option.some.injEq] at hb; subst hb
                cases hlo with
                | none => simp only [abound, Option.some.injEq] at hk; subst hk; simp [Instr.sliceBounds]
                | some v x hv => simp [Instr.sliceBounds, (abound_some hk hv _ (Nat.le_refl _) w).1]
              | some v x hv =>
                have := (abound_some (P := P) hb hv .sliceAcap hcap w).1
                cases hlo with
                | none => simp only [abound, Option.some.injEq] at hk; subst hk; simp [Instr.sliceBounds, this]
                | some v x hv => simp [Instr.sliceBounds, this, (abound_some hk hv _ (Nat.le_refl _) w).1]
            refine ⟨.slice (some (if c = k then a else a.add (k * loc.esz))) (hh - k) (c - k), ?_, ?_⟩
            · simp [Instr.sliceAt, Instr.slice, run_underlying hu, e1, run_sizeOf hsz]
              split <;> rfl
            · refine .sl l (i + k) (hh - k) _ loc _ (c - k) hl (by omega) (fun m hm => ?_) (fun hpos => ?_)
              · cases hcc : cap with
                | none => rw [hcc] at hm; cases hm
                | some q => rw [hcc] at hm; simp at hm; have := hc q hcc; omega
              · obtain ⟨rfl, hfit⟩ := ha (by omega)
                rw [if_neg (by omega), addr_add]
                refine ⟨?_, ?_⟩
                · congr 1; rw [Nat.add_mul]; omega
                · rw [show i + k + (c - k) = i + c by omega]; exact hfit
          · cases h
        · cases h
      · cases h
    · rename_i sz m0 hsz
      cases hmx with | some _ mx' hm0 =>
      split at h
      · rename_i hse
        subst hse
        split at h
        · rename_i m hm
          obtain ⟨rm, hmle⟩ := abound_some (P := P) hm hm0 .slice3Acap hcap w
          split at h
          · rename_i hv hh hb
            cases hhi with | some _ x hvx =>
            obtain ⟨rh, hhle⟩ := abound_some (P := P) hb hvx .slice3B (Nat.le_refl _) w
            split at h
            · rename_i k hk
              simp only [Option.some.injEq] at h; subst h
              have hkh : k ≤ hh := by
                cases hlo with
                | none => simp only [abound, Option.some.injEq] at hk; omega
                | some v x hv => exact (abound_some (P := P) hk hv .sliceB (Nat.le_refl _) w).2
              have e1 : (Instr.sliceBounds true n c lo' (some x) (some mx')).run P w = .ok (k, hh, m) w := by
                cases hlo with
                | none => simp only [abound, Option.some.injEq] at hk; subst hk; simp [Instr.sliceBounds, rm, rh]
                | some v x hv => simp [Instr.sliceBounds, rm, rh, (abound_some hk hv _ (Nat.le_refl _) w).1]
              refine ⟨.slice (some (if m = k then a else a.add (k * loc.esz))) (hh - k) (m - k), ?_, ?_⟩
              · simp [Instr.sliceAt, Instr.slice, run_underlying hu, e1, run_sizeOf hsz]
                split <;> rfl
              · refine .sl l (i + k) (hh - k) _ loc _ (m - k) hl (by omega) (fun q hq => by simpa using hq) (fun hpos => ?_)
                obtain ⟨rfl, hfit⟩ := ha (by omega)
                rw [if_neg (by omega), addr_add]
                refine ⟨?_, ?_⟩
                · congr 1; rw [Nat.add_mul]; omega
                · refine Nat.le_trans (Nat.add_le_add_left (Nat.mul_le_mul_right _ ?_) _) hfit
                  omega
            · cases h
          · cases h
        · cases h
      · cases h
    · cases h
  · rename_i e hu
    cases hx
    split at h
    · rename_i sz hsz
      cases hmx
      split at h
      · rename_i hh hb
        split at h
        · rename_i k hk
          simp only [Option.some.injEq] at h; subst h
          have hh0 : hh = 0 := by
            cases hhi with
            | none => simp only [abound, Option.some.injEq] at hb; omega
            | some v x hv => have := (abound_some (P := P) hb hv .sliceAcap (Nat.le_refl _) w).2; omega
          subst hh0
          have hk0 : k = 0 := by
            cases hlo with
            | none => simp only [abound, Option.some.injEq] at hk; omega
            | some v x hv => have := (abound_some (P := P) hk hv .sliceB (Nat.le_refl _) w).2; omega
          subst hk0
          refine ⟨.slice none 0 0, ?_, .nilSl⟩
          have e1 : (Instr.sliceBounds true 0 0 lo' hi' none).run P w = .ok (0, 0, 0) w := by
            cases hhi with
            | none =>
              cases hlo with
              | none => simp [Instr.sliceBounds]
              | some v x hv => simp [Instr.sliceBounds, (abound_some hk hv _ (Nat.le_refl _) w).1]
            | some v x hv =>
              have := (abound_some (P := P) hb hv .sliceAcap (Nat.le_refl _) w).1
              cases hlo with
              | none => simp [Instr.sliceBounds, this]
              | some v x hv => simp [Instr.sliceBounds, this, (abound_some hk hv _ (Nat.le_refl _) w).1]
          simp [Instr.sliceAt, Instr.slice, run_underlying hu, e1, run_sizeOf hsz]
        · cases h
      · cases h
    · cases h
  · cases h
end
end Go.Ev

namespace Go.Ev
section
variable {P : Program} {ρ : Env} {H : AHeap} {w : World}
theorem cells_read (c : Array Value) : ∀ (d : List AV) (o : Nat), (∀ (j : Nat) (v : AV), d[j]? = some v → v.one = true ∧ ∃ x, c[o + j]? = some x ∧ VRel ρ v x) →
    ∃ xs : List Value, VRels ρ d xs ∧ (∀ j u, xs[j]? = some u → c[o + j]? = some u) ∧ ∀ u ∈ xs, u.oneCell' = true
  | [], _, _ => ⟨[], .nil, fun j u h => by simp at h, fun u h => by cases h⟩
  | v :: d, o, h => by
    obtain ⟨h1, x, hx, hv⟩ := h 0 v rfl
    obtain ⟨xs, e1, e2, e3⟩ := cells_read c d (o + 1) (fun j u hj => by have := h (j + 1) u (by simpa using hj); rwa [show o + (j + 1) = o + 1 + j by omega] at this)
    refine ⟨x :: xs, .cons _ _ _ _ hv e1, ?_, ?_⟩
    · intro j u hj
      cases j with
      | zero => simp at hj; subst hj; exact hx
      | succ j => rw [show o + (j + 1) = o + 1 + j by omega]; exact e2 j u (by simpa using hj)
    · intro u hu
      rcases List.mem_cons.1 hu with rfl | hu
      · exact hv.oneCell h1
      · exact e3 u hu
theorem rows_read (c : Array Value) (esz : Nat) : ∀ (els : List (List AV)) (o : Nat), (∀ (i : Nat) (e : List AV), els[i]? = some e → e.length = esz ∧ ∀ (j : Nat) (v : AV), e[j]? = some v → v.one = true ∧ ∃ x, c[o + i * esz + j]? = some x ∧ VRel ρ v x) →
    ∃ xs : List Value, VRels ρ els.flatten xs ∧ (∀ j u, xs[j]? = some u → c[o + j]? = some u) ∧ ∀ u ∈ xs, u.oneCell' = true
  | [], _, _ => ⟨[], by simpa using VRels.nil, fun j u h => by simp at h, fun u h => by cases h⟩
  | d :: els, o, h => by
    obtain ⟨hd, hc⟩ := h 0 d rfl
    obtain ⟨ys, a1, a2, a3⟩ := cells_read c d o (fun j v hj => by simpa using hc j v hj)
    obtain ⟨xs, e1, e2, e3⟩ := rows_read c esz els (o + esz) (fun i e he => by
      have := h (i + 1) e (by simpa using he)
      rw [Nat.succ_mul] at this
      refine ⟨this.1, fun j v hj => ?_⟩
      have := this.2 j v hj
      rwa [show o + (i * esz + esz) + j = o + esz + i * esz + j by omega] at this)
    have hl := a1.length
    refine ⟨ys ++ xs, by simpa using a1.append e1, ?_, ?_⟩
    · intro j u hj
      by_cases hjl : j < ys.length
      · rw [List.getElem?_append_left hjl] at hj; exact a2 j u hj
      · rw [List.getElem?_append_right (by omega)] at hj
        have := e2 _ u hj
        rwa [show o + esz + (j - ys.length) = o + j by omega] at this
    · intro u hu
      rcases List.mem_append.1 hu with hu | hu
      · exact a3 u hu
      · exact e3 u hu
def aels (H : AHeap) (l i n esz : Nat) : Option (List (List AV)) :=
  match H.get l with
  | some (.row _ esz' els) => if esz' = esz ∧ i + n ≤ els.length then some ((els.drop i).take n) else none
  | _ => none
theorem piece_get {els : List (List AV)} {i n k : Nat} {e : List AV} (h : ((els.drop i).take n)[k]? = some e) : els[i + k]? = some e := by
  rw [List.getElem?_take] at h
  split at h
  · rw [List.getElem?_drop] at h; exact h
  · cases h
theorem aels_sound (hR : Rel ρ H w) {l i n : Nat} {loc : Loc} {ds : List (List AV)} (h : aels H l i n loc.esz = some ds) (hl : ρ l = some loc) :
    ds.length = n ∧ (∀ e ∈ ds, e.length = loc.esz) ∧ (∀ e ∈ ds, ∀ v ∈ e, v.one = true) ∧
    ∃ xs : List Value, VRels ρ ds.flatten xs ∧ xs.length = n * loc.esz ∧ (∀ j u, xs[j]? = some u → w.cell? ⟨loc.block, loc.off + i * loc.esz + j, none⟩ = some u) ∧ ∀ u ∈ xs, u.oneCell' = true := by
  unfold aels at h
  split at h
  · rename_i ro esz' els hg
    split at h
    · rename_i hcond
      obtain ⟨rfl, hle⟩ := hcond
      simp only [Option.some.injEq] at h; subst h
      obtain ⟨loc', hl', _, c, t, fz, hb, _, hr⟩ := hR.row _ _ _ _ hg
      obtain rfl : loc = loc' := Option.some.inj (hl.symm.trans hl')
      have hlen : ((els.drop i).take n).length = n := by simp; omega
      have h1 : ∀ e ∈ (els.drop i).take n, e.length = loc.esz := fun e he => by
        obtain ⟨k, hk⟩ := List.getElem?_of_mem he
        exact (hr _ e (piece_get hk)).1
      have h2 : ∀ e ∈ (els.drop i).take n, ∀ v ∈ e, v.one = true := fun e he v hv => by
        obtain ⟨k, hk⟩ := List.getElem?_of_mem he
        obtain ⟨j, hj⟩ := List.getElem?_of_mem hv
        exact ((hr _ e (piece_get hk)).2 j v hj).1
      refine ⟨hlen, h1, h2, ?_⟩
      obtain ⟨xs, e1, e2, e3⟩ := rows_read (ρ := ρ) c loc.esz ((els.drop i).take n) (loc.off + i * loc.esz) (fun k e hk => by
        have := hr _ e (piece_get hk)
        refine ⟨this.1, fun j v hj => ?_⟩
        have := this.2 j v hj
        rwa [Nat.add_mul, ← Nat.add_assoc] at this)
      refine ⟨xs, e1, by rw [← e1.length, flatten_length h1, hlen], fun j u hj => ?_, e3⟩
      simp [World.cell?, hb, e2 j u hj]
    · cases h
  · cases h
def anews (P : Program) (H : AHeap) (tx : TypeId) (esz : Nat) (x : AV) : Option (List (List AV)) :=
  match P.underlying tx, x with
  | some (.slice _), .sl l i n esz' _ => if esz' = esz then aels H l i n esz else none
  | some (.slice _), .nilSl => some []
  | some .string, .str s => if esz = 1 then some (s.map fun b => [.int .u8 b.toNat]) else none
  | _, _ => none
theorem byteCells_rel (s : List UInt8) : VRels ρ ((s.map fun b => [AV.int .u8 b.toNat]).flatten) (byteCells ⟨s.toArray⟩) := by
  unfold byteCells
  show VRels ρ _ (s.map _)
  induction s with
  | nil => exact .nil
  | cons b s ih => exact .cons _ _ _ _ (.int _ _) ih
theorem anews_sound (hR : Rel ρ H w) {tx : TypeId} {esz : Nat} {x : AV} {x' : Value} {ds : List (List AV)} (h : anews P H tx esz x = some ds) (hx : VRel ρ x x') :
    (∀ e ∈ ds, e.length = esz) ∧ (∀ e ∈ ds, ∀ v ∈ e, v.one = true) ∧ ∃ news : List Value, VRels ρ ds.flatten news ∧ Src P esz tx x' ds.length news w := by
  unfold anews at h
  split at h
  · rename_i e l i n esz' cap hu
    split at h
    · rename_i he; subst he
      cases hx with | sl _ _ _ _ loc a c hl hn hc ha =>
      obtain ⟨h1, h2, h3, xs, h4, h5, h6, h7⟩ := aels_sound hR h hl
      refine ⟨h2, h3, xs, h4, ?_⟩
      rw [h1]
      refine Src.ofSlice w hu a n c xs h5 (fun j u hj => ?_) h7
      have hpos : 0 < c := by
        rcases Nat.eq_zero_or_pos c with h0 | h0
        · have hn0 : n = 0 := by omega
          rw [hn0] at h5
          have : xs = [] := List.eq_nil_of_length_eq_zero (by simpa using h5)
          subst this; simp at hj
        · exact h0
      obtain ⟨rfl, _⟩ := ha hpos
      rw [addr_add]; exact h6 j u hj
    · cases h
  · rename_i e hu
    cases hx
    simp only [Option.some.injEq] at h; subst h
    exact ⟨by simp, by simp, [], by simpa using VRels.nil, Src.ofNil w hu 0⟩
  · rename_i s hu
    split at h
    · rename_i he; subst he
      cases hx
      simp only [Option.some.injEq] at h; subst h
      refine ⟨by simp, by simp [AV.one], _, byteCells_rel s, ?_⟩
      have := Src.ofString w hu (⟨s.toArray⟩ : ByteArray)
      have hs : (⟨s.toArray⟩ : ByteArray).size = s.length := by show s.toArray.size = _; simp
      rw [hs] at this
      simpa using this
    · cases h
  · cases h
def tyBytes (P : Program) (t : TypeId) : Option Nat := (P.info? t).map (·.bytes)
def aappend (P : Program) (H : AHeap) (ts : List TypeId) (s x : AV) : Option (AV × AHeap) :=
  match ts with
  | [t, tx] =>
    (match P.underlying t with
    | some (.slice e) =>
      (match tySize P e, tyBytes P e, azero P e with
      | some esz, some by_, some z =>
        (match anews P H tx esz x with
        | some ds =>
          if z.cells.length = esz ∧ 0 < esz then
            (match s with
            | .nilSl => if ds.length = 0 then some (.nilSl, H) else
              if ds.length * by_ ≤ 140737488355328 ∧ ds.length ≤ 9223372036854775807 then some (.sl H.next 0 ds.length esz none, H.push (.row false esz ds)) else none
            | .sl l i n esz' cap =>
              if esz' = esz then
                if ds.length = 0 then some (s, H)
                else if (n + ds.length) * by_ ≤ 140737488355328 ∧ n + ds.length ≤ 9223372036854775807 then
                  (match aels H l i n esz with
                  | some os =>
                    if cap.any (· < n + ds.length) = true then some (.sl H.next 0 (n + ds.length) esz none, H.push (.row false esz (os ++ ds)))
                    else if cap = none then
                      (match H.get l with
                      | some (.row false _ _) => some (.sl H.next 0 (n + ds.length) esz none, (H.set l .dead).push (.row false esz (os ++ ds)))
                      | _ => none)
                    else none
                  | none => none)
                else none
              else none
            | _ => none)
          else none
        | none => none)
      | _, _, _ => none)
    | _ => none)
  | _ => none
theorem run_nothing (w : World) (t tx ty e : TypeId) (ht : P.underlying t = some (.slice e)) {esz : Nat} (hsz : tySize P e = some esz) (base : Option Addr) (n c : Nat) (hn : n ≤ c) (x : Value) (hs : Src P esz tx x 0 [] w) :
    (Builtin.append_ #[t, tx] ty #[.slice base n c, x]).run P w = .ok (.slice base n c) w := by
  have hcells := hs.cells
  rcases hs.kind with ⟨e', hk⟩ | hk <;> cases base <;>
    simp [Builtin.append_, run_underlying ht, run_underlying hk, run_sizeOf hsz, hs.len, hn, hcells, storeCells]
theorem grow_run (hR : Rel ρ H w) (hf : ρ H.next = none) {t tx e : TypeId} (ty : TypeId) (ht : P.underlying t = some (.slice e)) {esz by_ : Nat} {z : AV} (hsz : tySize P e = some esz) (hby : tyBytes P e = some by_) (hz : azero P e = some z)
    (hzl : z.cells.length = esz) (hpos : 0 < esz)
    {ds os : List (List AV)} (d1 : ∀ e ∈ ds, e.length = esz) (d2 : ∀ e ∈ ds, ∀ v ∈ e, v.one = true) {news : List Value} (d3 : VRels ρ ds.flatten news) {x' : Value} (hs : Src P esz tx x' ds.length news w)
    (o1 : ∀ e ∈ os, e.length = esz) (o2 : ∀ e ∈ os, ∀ v ∈ e, v.one = true) {olds : List Value} (o3 : VRels ρ os.flatten olds) (base : Option Addr) (n c : Nat) (hos : os.length = n)
    (hold : (Builtin.firstCells esz n (.slice base n c)).run P w.drew = .ok olds.toArray w.drew) (hg : c < n + ds.length) (hb : (n + ds.length) * by_ ≤ 140737488355328) (h63 : n + ds.length ≤ 9223372036854775807) :
    ∃ r w' ρ', (Builtin.append_ #[t, tx] ty #[.slice base n c, x']).run P w = .ok r w' ∧ VRel ρ' (.sl H.next 0 (n + ds.length) esz none) r ∧ Step ρ H w ρ' (H.push (.row false esz (os ++ ds))) w' := by
  unfold azero at hz
  unfold tySize at hsz
  unfold tyBytes at hby
  simp only [Option.bind_eq_some_iff] at hz
  obtain ⟨i, hi, zx, hzx, hzz⟩ := hz
  rw [hi] at hsz hby
  simp only [Option.map_some, Option.some.injEq] at hsz hby
  subst hsz; subst hby
  have hzc := (ofVal_sound hzz ρ).cells
  have hzs : zx.cells.size = i.size := by have := hzc.length; rw [hzl] at this; simpa using this.symm
  have hrun := run_append_grow_src (P := P) w t tx ty e i zx ht hi hzx base n c olds hold x' ds.length news hs hg (by omega) (growslice_fits hg hb)
  have hR' : Rel ρ H w.drew := hR.drew
  have hstep := push_row_sound (w := w.drew) hR' hf (esz := i.size) (els := os ++ ds) (fun e he => (List.mem_append.1 he).elim (o1 e) (d1 e)) (fun e he => (List.mem_append.1 he).elim (o2 e) (d2 e))
    (xs := olds ++ news) (tail := (Builtin.zeroCells zx.cells (grownCap w (n + ds.length) c e - (n + ds.length))).toList) (by simpa using o3.append d3) e
  have e1 : ((olds ++ news) ++ (Builtin.zeroCells zx.cells (grownCap w (n + ds.length) c e - (n + ds.length))).toList).toArray = (olds ++ news).toArray ++ Builtin.zeroCells zx.cells (grownCap w (n + ds.length) c e - (n + ds.length)) := by
    apply Array.ext'; simp
  rw [e1] at hstep
  refine ⟨_, _, _, hrun, ?_, ⟨hstep.le, hstep.next, hstep.keep, hstep.rel, hstep.os, hstep.tape, hstep.output, hstep.size, hstep.frame, hstep.own, hstep.ro⟩⟩
  have hge := grownCap_ge w (n + ds.length) c e
  refine VRel.sl (ρ := ρ.upd H.next _) H.next 0 (n + ds.length) none _ _ (grownCap w (n + ds.length) c e) (Env.upd_same _ _ _) hge (fun k hk => by cases hk) (fun _ => ⟨by show (⟨w.heap.size, 0, none⟩ : Addr) = ⟨w.heap.size, 0 + 0 * i.size, none⟩; simp, ?_⟩)
  have l1 : olds.length = n * i.size := by rw [← o3.length, flatten_length o1, hos]
  have l2 : news.length = ds.length * i.size := by rw [← d3.length, flatten_length d1]
  have l3 : (Builtin.zeroCells zx.cells (grownCap w (n + ds.length) c e - (n + ds.length))).size = (grownCap w (n + ds.length) c e - (n + ds.length)) * i.size := by rw [size_zeroCells, hzs]
  simp only [Nat.zero_add, List.length_append, l1, l2, Array.length_toList, l3]
  rw [← Nat.add_mul, ← Nat.add_mul]
  exact Nat.mul_le_mul_right _ (by omega)
theorem place_step (hR : Rel ρ H w) (hf : ρ H.next = none) {l i n esz : Nat} {els : List (List AV)} (hg : H.get l = some (.row false esz els)) {loc : Loc} (hl : ρ l = some loc) (hin : i + n ≤ els.length)
    {ds : List (List AV)} (d1 : ∀ e ∈ ds, e.length = esz) (d2 : ∀ e ∈ ds, ∀ v ∈ e, v.one = true) {news : List Value} (d3 : VRels ρ ds.flatten news) (hfit : loc.off + (i + n + ds.length) * esz ≤ loc.size) :
    Step ρ H w (ρ.upd H.next ⟨loc.block, loc.off + i * esz, esz, loc.size⟩) ((H.set l .dead).push (.row false esz ((els.drop i).take n ++ ds))) (w.setCells loc.block (loc.off + (i + n) * esz) news) := by
  have hlt := AHeap.get_lt hg
  obtain ⟨loc', hl', _, arr, t, fz, hb, hfz, hrow⟩ := hR.row _ _ _ _ hg
  obtain rfl : loc = loc' := Option.some.inj (hl.symm.trans hl')
  obtain ⟨hsize, hfree⟩ := hfz rfl
  have hle := Env.le_upd hf ⟨loc.block, loc.off + i * esz, esz, loc.size⟩
  have hnl : news.length = ds.length * esz := by rw [← d3.length, flatten_length d1]
  obtain ⟨s1, s2, s3, s4⟩ := setCells_same loc.block news (loc.off + (i + n) * esz) w
  have get_other : ∀ k, k ≠ H.next → k ≠ l → ((H.set l .dead).push (.row false esz ((els.drop i).take n ++ ds))).get k = H.get k := fun k h1 h2 => by
    rw [AHeap.get_push_other (by simpa using h1), AHeap.get_set_other (Ne.symm h2)]
  have get_l : ((H.set l .dead).push (.row false esz ((els.drop i).take n ++ ds))).get l = some .dead := by
    rw [AHeap.get_push_other (by simp; omega), AHeap.get_set_same hlt]
  have get_new : ((H.set l .dead).push (.row false esz ((els.drop i).take n ++ ds))).get H.next = some (.row false esz ((els.drop i).take n ++ ds)) := AHeap.get_push_same (H.set l .dead) _
  have rw_other : ∀ k, ((H.set l .dead).push (.row false esz ((els.drop i).take n ++ ds))).rw k → k ≠ H.next → H.rw k ∧ k ≠ l := fun k h hk => by
    have hkl : k ≠ l := by rintro rfl; rcases h with ⟨_, _, h⟩ | ⟨_, h⟩ <;> (rw [get_l] at h; cases h)
    simpa [AHeap.rw, get_other k hk hkl, hkl] using h
  have live_other : ∀ k, ((H.set l .dead).push (.row false esz ((els.drop i).take n ++ ds))).live k → k ≠ H.next → H.live k ∧ k ≠ l := fun k h hk => by
    have hkl : k ≠ l := by rintro rfl; rcases h with ⟨_, _, _, h⟩ | ⟨_, h⟩ <;> (rw [get_l] at h; cases h)
    simpa [AHeap.live, get_other k hk hkl, hkl] using h
  have hne_blk : ∀ k loc', H.live k → k ≠ l → ρ k = some loc' → loc'.block ≠ loc.block := fun k loc' h h' e heq =>
    hR.apart l k loc loc' (.inl ⟨_, _, hg⟩) h (Ne.symm h') hl e heq.symm
  refine ⟨hle, by simp, fun k hk => Env.upd_other (by simp at hk; omega), ⟨?_, ?_, ?_⟩, s2, s3, s4, Nat.le_of_eq s1.symm, ?_, ?_, ?ro⟩
  case ro =>
    intro k esz' els' h
    by_cases hk : k = H.next
    · subst hk; rw [get_new] at h; cases h
    · by_cases hkl : k = l
      · subst hkl; rw [get_l] at h; cases h
      · rwa [get_other k hk hkl] at h
  · intro k ro' esz' els' h
    by_cases hk : k = H.next
    · subst hk
      rw [get_new] at h
      simp only [Option.some.injEq, ABlk.row.injEq] at h
      obtain ⟨rfl, rfl, rfl⟩ := h
      refine ⟨_, Env.upd_same _ _ _, rfl, _, t, fz, setCells_heap _ _ _ _ _ _ _ hb, fun _ => ⟨by rw [putAll_size]; exact hsize, by rw [putAll_size]; exact hfree⟩, ?_⟩
      intro q e he
      have hlen1 : ((els.drop i).take n).length = n := by simp; omega
      by_cases hq : q < n
      · rw [List.getElem?_append_left (by omega)] at he
        have he' := piece_get he
        obtain ⟨a0, a1⟩ := hrow _ e he'
        refine ⟨a0, fun j v hj => ?_⟩
        obtain ⟨b1, x, hx, hvx⟩ := a1 j v hj
        refine ⟨b1, x, ?_, hvx.mono hle⟩
        have hjl : j < esz := by
          rcases Nat.lt_or_ge j e.length with h | h
          · omega
          · rw [List.getElem?_eq_none h] at hj; cases hj
        show (putAll arr (loc.off + (i + n) * esz) news)[loc.off + i * esz + q * esz + j]? = some x
        rw [putAll_out _ _ _ _ (by have := lt_block (n := esz) (show i + q < i + n by omega); rw [Nat.add_mul] at this; omega)]
        rw [show loc.off + i * esz + q * esz + j = loc.off + (i + q) * esz + j by rw [Nat.add_mul]; omega]
        exact hx
      · rw [List.getElem?_append_right (by omega), hlen1] at he
        refine ⟨d1 e (List.mem_of_getElem? he), fun j v hj => ?_⟩
        obtain ⟨x, hx, hvx⟩ := d3.get _ _ (flatten_get d1 he hj)
        refine ⟨d2 e (List.mem_of_getElem? he) v (List.mem_of_getElem? hj), x, ?_, hvx.mono hle⟩
        have hql : q - n < ds.length := by
          rcases Nat.lt_or_ge (q - n) ds.length with h | h
          · exact h
          · rw [List.getElem?_eq_none h] at he; cases he
        have hjl : j < esz := by
          have := d1 e (List.mem_of_getElem? he)
          rcases Nat.lt_or_ge j e.length with h | h
          · omega
          · rw [List.getElem?_eq_none h] at hj; cases hj
        have hb1 := lt_block (n := esz) hql
        have hm1 : (i + n + ds.length) * esz = (i + n) * esz + ds.length * esz := Nat.add_mul _ _ _
        have := putAll_in news arr (loc.off + (i + n) * esz) ((q - n) * esz + j) x hx (by omega)
        show (putAll arr (loc.off + (i + n) * esz) news)[loc.off + i * esz + q * esz + j]? = some x
        rw [show loc.off + i * esz + q * esz + j = loc.off + (i + n) * esz + ((q - n) * esz + j) by
          have : q * esz = n * esz + (q - n) * esz := by rw [← Nat.add_mul]; congr 1; omega
          rw [Nat.add_mul]; omega]
        exact this
    · by_cases hkl : k = l
      · subst hkl; rw [get_l] at h; cases h
      · rw [get_other k hk hkl] at h
        obtain ⟨loc', hl', p1, c', t', fz', p2, p3, p4⟩ := hR.row _ _ _ _ h
        have hne := hne_blk k loc' (.inl ⟨_, _, _, h⟩) hkl hl'
        refine ⟨loc', by rw [Env.upd_other hk]; exact hl', p1, c', t', fz', by rw [setCells_heap_other _ _ _ _ _ hne]; exact p2, p3, ?_⟩
        intro q e he
        obtain ⟨a0, a1⟩ := p4 q e he
        refine ⟨a0, fun j v hj => ?_⟩
        obtain ⟨b1, x, hx, hvx⟩ := a1 j v hj
        exact ⟨b1, x, hx, hvx.mono hle⟩
  · intro k es h
    by_cases hk : k = H.next
    · subst hk; rw [get_new] at h; cases h
    · by_cases hkl : k = l
      · subst hkl; rw [get_l] at h; cases h
      · rw [get_other k hk hkl] at h
        obtain ⟨loc', hl', ents, clock, p2, p3, p4⟩ := hR.map _ _ h
        have hne := hne_blk k loc' (.inr ⟨_, h⟩) hkl hl'
        exact ⟨loc', by rw [Env.upd_other hk]; exact hl', ents, clock, by rw [setCells_heap_other _ _ _ _ _ hne]; exact p2, p3.mono hle, p4.mono hle⟩
  · intro k k' loc1 loc2 h1 h2 hne e1 e2
    by_cases hk : k = H.next
    · subst hk
      rw [Env.upd_same] at e1
      obtain rfl := Option.some.inj e1
      obtain ⟨h2', hk2⟩ := live_other k' h2 (Ne.symm hne)
      rw [Env.upd_other (Ne.symm hne)] at e2
      exact (hne_blk k' loc2 h2' hk2 e2).symm
    · obtain ⟨h1', hk1⟩ := rw_other k h1 hk
      rw [Env.upd_other hk] at e1
      by_cases hk' : k' = H.next
      · subst hk'
        rw [Env.upd_same] at e2
        obtain rfl := Option.some.inj e2
        exact hne_blk k loc1 h1'.live hk1 e1
      · obtain ⟨h2', hk2⟩ := live_other k' h2 hk'
        rw [Env.upd_other hk'] at e2
        exact hR.apart k k' loc1 loc2 h1' h2' hne e1 e2
  · intro b _ hno
    refine setCells_heap_other _ _ _ _ _ ?_
    rintro rfl
    exact hno ⟨l, loc, .inl ⟨_, _, hg⟩, hl, rfl⟩
  · rintro b ⟨k, loc', h1, h2, h3⟩
    by_cases hk : k = H.next
    · subst hk
      rw [Env.upd_same] at h2
      obtain rfl := Option.some.inj h2
      exact .inl ⟨l, loc, .inl ⟨_, _, hg⟩, hl, h3⟩
    · obtain ⟨h1', _⟩ := rw_other k h1 hk
      rw [Env.upd_other hk] at h2
      exact .inl ⟨k, loc', h1', h2, h3⟩
theorem Step.dead {ρ' : Env} {H₁ H₂ : AHeap} {w' : World} (h : Step ρ H w ρ' H₁ w') (hn : H₂.next = H₁.next) (hg : ∀ k, H₂.get k = H₁.get k ∨ H₂.get k = some .dead) : Step ρ H w ρ' H₂ w' := by
  have get_row : ∀ k ro esz els, H₂.get k = some (.row ro esz els) → H₁.get k = some (.row ro esz els) := fun k ro esz els e => by
    rcases hg k with h | h
    · rw [← h]; exact e
    · rw [h] at e; cases e
  have get_map : ∀ k es, H₂.get k = some (.map es) → H₁.get k = some (.map es) := fun k es e => by
    rcases hg k with h | h
    · rw [← h]; exact e
    · rw [h] at e; cases e
  have hrw : ∀ k, H₂.rw k → H₁.rw k := fun k h => by
    rcases h with ⟨a, b, h⟩ | ⟨a, h⟩
    · exact .inl ⟨a, b, get_row _ _ _ _ h⟩
    · exact .inr ⟨a, get_map _ _ h⟩
  have hlive : ∀ k, H₂.live k → H₁.live k := fun k h => by
    rcases h with ⟨a, b, c, h⟩ | ⟨a, h⟩
    · exact .inl ⟨a, b, c, get_row _ _ _ _ h⟩
    · exact .inr ⟨a, get_map _ _ h⟩
  refine ⟨h.le, by rw [hn]; exact h.next, fun l hl => h.keep l (by rw [← hn]; exact hl), ⟨fun l ro esz els e => h.rel.row l ro esz els (get_row _ _ _ _ e), fun l es e => h.rel.map l es (get_map _ _ e), fun l l' a b h1 h2 => h.rel.apart l l' a b (hrw _ h1) (hlive _ h2)⟩, h.os, h.tape, h.output, h.size, h.frame, ?_, fun k esz els e => h.ro k esz els (get_row _ _ _ _ e)⟩
  rintro b ⟨l, loc, h1, h2, h3⟩
  exact h.own b ⟨l, loc, hrw _ h1, h2, h3⟩
theorem aappend_sound (hR : Rel ρ H w) {ts : List TypeId} {s x a : AV} {s' x' : Value} {H' : AHeap} (ty : TypeId) (h : aappend P H ts s x = some (a, H')) (hf0 : H.next < H'.next → ρ H.next = none) (hs : VRel ρ s s') (hx : VRel ρ x x') :
    ∃ r w' ρ', (Builtin.append_ ts.toArray ty #[s', x']).run P w = .ok r w' ∧ VRel ρ' a r ∧ Step ρ H w ρ' H' w' := by
  unfold aappend at h
  split at h
  · rename_i t tx
    split at h
    · rename_i e hu
      split at h
      · rename_i esz by_ z hsz hby hz
        split at h
        · rename_i ds hds
          obtain ⟨d1, d2, news, d3, hsrc⟩ := anews_sound (P := P) hR hds hx
          split at h
          · rename_i hzc
            obtain ⟨hzl, hpos⟩ := hzc
            have hnone : ds.length = 0 → Src P esz tx x' 0 [] w := fun h0 => by
              have : ds = [] := List.eq_nil_of_length_eq_zero h0
              subst this
              have : news = [] := by cases d3; rfl
              subst this
              simpa using hsrc
            split at h
            · cases hs
              split at h
              · rename_i h0
                simp only [Option.some.injEq, Prod.mk.injEq] at h
                obtain ⟨rfl, rfl⟩ := h
                exact ⟨_, _, _, run_nothing w t tx ty e hu hsz none 0 0 (Nat.le_refl _) x' (hnone h0), .nilSl, Step.refl hR⟩
              · rename_i h0
                split at h
                · rename_i hb
                  simp only [Option.some.injEq, Prod.mk.injEq] at h
                  obtain ⟨rfl, rfl⟩ := h
                  have hf := hf0 (by simp)
                  have := grow_run hR hf ty hu hsz hby hz hzl hpos d1 d2 d3 hsrc (os := []) (by simp) (by simp) (olds := []) (by simpa using VRels.nil) none 0 0 rfl
                    (run_firstCells_none w.drew esz 0 0 0) (by omega) (by simpa using hb.1) (by simpa using hb.2)
                  simpa using this
                · cases h
            · rename_i l i n esz' cap
              split at h
              · rename_i he
                split at h
                · rename_i h0
                  simp only [Option.some.injEq, Prod.mk.injEq] at h
                  obtain ⟨rfl, rfl⟩ := h
                  cases hs with | sl _ _ _ _ loc ad c hl hn hc ha =>
                  exact ⟨_, _, _, run_nothing w t tx ty e hu hsz (some ad) n c hn x' (hnone h0), .sl l i n cap loc ad c hl hn hc ha, Step.refl hR⟩
                · rename_i h0
                  split at h
                  · rename_i hb
                    split at h
                    · rename_i os hos
                      cases hs with | sl _ _ _ _ loc ad c hl hn hc ha =>
                      subst he
                      obtain ⟨o0, o1, o2, olds, o3, o4, o5, o6⟩ := aels_sound hR hos hl
                      have hold : (Builtin.firstCells loc.esz n (.slice (some ad) n c)).run P w.drew = .ok olds.toArray w.drew := by
                        refine run_firstCells_some w.drew loc.esz n ad n c olds o4 (fun j u hj => ?_)
                        have hcp : 0 < c := by
                          rcases Nat.eq_zero_or_pos c with h0 | h0
                          · have hn0 : n = 0 := by omega
                            rw [hn0] at o4
                            have : olds = [] := List.eq_nil_of_length_eq_zero (by simpa using o4)
                            subst this; simp at hj
                          · exact h0
                        obtain ⟨rfl, _⟩ := ha hcp
                        rw [addr_add]; exact o5 j u hj
                      split at h
                      · rename_i hcap
                        simp only [Option.some.injEq, Prod.mk.injEq] at h
                        obtain ⟨rfl, rfl⟩ := h
                        have hf := hf0 (by simp)
                        have hcl : c < n + ds.length := by
                          cases hcc : cap with
                          | none => rw [hcc] at hcap; simp at hcap
                          | some k => rw [hcc] at hcap; simp at hcap; have := hc k hcc; omega
                        exact grow_run hR hf ty hu hsz hby hz hzl hpos d1 d2 d3 hsrc o1 o2 o3 (some ad) n c o0 hold hcl hb.1 hb.2
                      · split at h
                        · rename_i hcn
                          split at h
                          · rename_i e0 els0 hgl
                            simp only [Option.some.injEq, Prod.mk.injEq] at h
                            obtain ⟨rfl, rfl⟩ := h
                            have hf := hf0 (by simp)
                            obtain ⟨loc', hl', hesz, arr, t0, fz, hbk, hfz, hrow⟩ := hR.row _ _ _ _ hgl
                            obtain rfl : loc = loc' := Option.some.inj (hl.symm.trans hl')
                            subst hesz
                            unfold aels at hos
                            rw [hgl] at hos
                            simp only [true_and] at hos
                            split at hos
                            · rename_i hin
                              simp only [Option.some.injEq] at hos
                              subst hos
                              by_cases hroom : n + ds.length ≤ c
                              · obtain ⟨rfl, hfit⟩ := ha (by omega)
                                obtain ⟨hsize, hfree⟩ := hfz rfl
                                have hstep := place_step hR hf hgl hl hin d1 d2 d3 (by
                                  refine Nat.le_trans (Nat.add_le_add_left (Nat.mul_le_mul_right _ ?_) _) hfit
                                  omega)
                                have hnl : news.length = ds.length * loc.esz := by rw [← d3.length, flatten_length d1]
                                have hin2 : ∀ j, j < news.length → loc.off + i * loc.esz + n * loc.esz + j < arr.size := by
                                  intro j hj
                                  have h1 : (i + c) * loc.esz = i * loc.esz + c * loc.esz := Nat.add_mul _ _ _
                                  have h2 : n * loc.esz + ds.length * loc.esz ≤ c * loc.esz := by rw [← Nat.add_mul]; exact Nat.mul_le_mul_right _ hroom
                                  omega
                                cases hie : P.info? e with
                                | none => unfold tySize at hsz; rw [hie] at hsz; cases hsz
                                | some ie =>
                                  have hies : ie.size = loc.esz := by unfold tySize at hsz; rw [hie] at hsz; simpa using hsz
                                  have hrun := run_append_room_src (P := P) w t tx ty e ie hu hie loc.block (loc.off + i * loc.esz) n c x' ds.length news (by rw [hies]; exact hsrc) hroom
                                    (fun j hj => by rw [hies]; simp [World.cell?, hbk, hin2 j hj])
                                    (fun j hj => by
                                      rw [hies]
                                      have := hfree _ (hin2 j hj)
                                      simp only [World.frozen?, hbk]
                                      simpa using this)
                                  rw [hies] at hrun
                                  refine ⟨_, _, _, hrun, ?_, by rw [show loc.off + i * loc.esz + n * loc.esz = loc.off + (i + n) * loc.esz by rw [Nat.add_mul]; omega]; exact hstep⟩
                                  refine VRel.sl (ρ := ρ.upd H.next _) H.next 0 (n + ds.length) none ⟨loc.block, loc.off + i * loc.esz, loc.esz, loc.size⟩ _ c (Env.upd_same _ _ _) hroom (fun k hk => by cases hk) (fun _ => ⟨by simp, ?_⟩)
                                  have h1 : (i + c) * loc.esz = i * loc.esz + c * loc.esz := Nat.add_mul _ _ _
                                  simp only [Nat.zero_add]
                                  omega
                              ·
                                obtain ⟨r, w', ρ', g1, g2, g3⟩ := grow_run hR hf ty hu hsz hby hz hzl hpos d1 d2 d3 hsrc o1 o2 o3 (some ad) n c o0 hold (by omega) hb.1 hb.2
                                refine ⟨r, w', ρ', g1, g2, g3.dead (by simp) (fun k => ?_)⟩
                                have hll := AHeap.get_lt hgl
                                by_cases hk : k = H.next
                                · subst hk
                                  left
                                  rw [AHeap.get_push_same]
                                  exact AHeap.get_push_same (H.set l .dead) _
                                · by_cases hkl : k = l
                                  · subst hkl
                                    right
                                    rw [AHeap.get_push_other (by simpa using hk), AHeap.get_set_same hll]
                                  · left
                                    rw [AHeap.get_push_other (by simpa using hk), AHeap.get_set_other (Ne.symm hkl), AHeap.get_push_other hk]
                            · cases hos
                          · cases h
                        · cases h
                    · cases h
                  · cases h
              · cases h
            · cases h
          · cases h
        · cases h
      · cases h
    · cases h
  · cases h
end
end Go.Ev

namespace Go.Ev
section
variable {P : Program} {ρ : Env} {H : AHeap} {w : World}
def alen (P : Program) (H : AHeap) (t : TypeId) (x : AV) : Option AV :=
  match P.underlying t, x with
  | some .string, .str s => some (.int .i64 s.length)
  | some (.slice _), .sl _ _ n _ _ => some (.int .i64 n)
  | some (.slice _), .nilSl => some (.int .i64 0)
  | some (.array n _), _ => some (.int .i64 n)
  | some (.map _ _), .nilMap => some (.int .i64 0)
  | some (.map _ _), .map l => (match H.get l with | some (.map es) => some (.int .i64 es.length) | _ => none)
  | _, _ => none
theorem getObj_map {l : Nat} {es : List (AV × AV)} (hR : Rel ρ H w) (hg : H.get l = some (.map es)) {loc : Loc} (hl : ρ l = some loc) :
    ∃ ents clock, w.heap[loc.block]? = some (.map ents clock) ∧ (getObj loc.block).run P w = .ok (.map ents clock) w ∧ VRels ρ (es.map (·.1)) (ents.toList.map (·.key)) ∧ VRels ρ (es.map (·.2)) (ents.toList.map (·.val)) := by
  obtain ⟨loc', hl', ents, clock, hb, h1, h2⟩ := hR.map _ _ hg
  obtain rfl : loc = loc' := Option.some.inj (hl.symm.trans hl')
  exact ⟨ents, clock, hb, by simp [getObj, Sem.run, hb], h1, h2⟩
theorem alen_sound (hR : Rel ρ H w) {t : TypeId} {x v : AV} {x' : Value} (ty : TypeId) (h : alen P H t x = some v) (hx : VRel ρ x x') : ∃ r, (Builtin.len_ #[t] ty #[x']).run P w = .ok r w ∧ VRel ρ v r := by
  unfold alen at h
  split at h
  · rename_i s hu
    cases hx; simp only [Option.some.injEq] at h; subst h
    have hs : (⟨s.toArray⟩ : ByteArray).size = s.length := by show s.toArray.size = _; simp
    exact ⟨_, by simp [Builtin.len_, run_underlying hu, goInt, hs], .int _ _⟩
  · rename_i hu
    cases hx; simp only [Option.some.injEq] at h; subst h
    exact ⟨_, by simp [Builtin.len_, run_underlying hu, goInt], .int _ _⟩
  · rename_i hu
    cases hx; simp only [Option.some.injEq] at h; subst h
    exact ⟨_, by simp [Builtin.len_, run_underlying hu, goInt], .int _ _⟩
  · rename_i n e hu
    simp only [Option.some.injEq] at h; subst h
    exact ⟨_, by simp [Builtin.len_, run_underlying hu, goInt], .int _ _⟩
  · rename_i hu
    cases hx; simp only [Option.some.injEq] at h; subst h
    exact ⟨_, by simp [Builtin.len_, run_underlying hu, goInt], .int _ _⟩
  · rename_i hu
    cases hx with | map _ loc hl =>
    split at h
    · rename_i es hg
      simp only [Option.some.injEq] at h; subst h
      obtain ⟨ents, clock, hb, hget, h1, h2⟩ := getObj_map (P := P) hR hg hl
      have hlen := h1.length
      simp only [List.length_map, Array.length_toList] at hlen
      exact ⟨_, by simp [Builtin.len_, run_underlying hu, goInt, hget, ← hlen], .int _ _⟩
    · cases h
  · cases h
def amax2 (x y : AV) : Option AV :=
  match x, y with
  | .int k a, .int _ b => some (.int k (if a < b then b else a))
  | _, _ => none
def amin2 (x y : AV) : Option AV :=
  match x, y with
  | .int k a, .int _ b => some (.int k (if b < a then b else a))
  | _, _ => none
theorem amax_sound {x y v : AV} {x' y' : Value} (ts : Array TypeId) (ty : TypeId) (h : amax2 x y = some v) (hx : VRel ρ x x') (hy : VRel ρ y y') (w : World) : ∃ r, (Builtin.max_ ts ty #[x', y']).run P w = .ok r w ∧ VRel ρ v r := by
  unfold amax2 at h
  split at h
  · cases hx; cases hy; simp only [Option.some.injEq] at h; subst h
    exact ⟨_, by simp [Builtin.max_, Builtin.max2], .int _ _⟩
  · cases h
theorem amin_sound {x y v : AV} {x' y' : Value} (ts : Array TypeId) (ty : TypeId) (h : amin2 x y = some v) (hx : VRel ρ x x') (hy : VRel ρ y y') (w : World) : ∃ r, (Builtin.min_ ts ty #[x', y']).run P w = .ok r w ∧ VRel ρ v r := by
  unfold amin2 at h
  split at h
  · cases hx; cases hy; simp only [Option.some.injEq] at h; subst h
    exact ⟨_, by simp [Builtin.min_, Builtin.min2], .int _ _⟩
  · cases h
def aextract (x : AV) (i : Nat) : Option AV :=
  match x with
  | .tuple vs => vs[i]?
  | _ => none
theorem aextract_sound {x v : AV} {x' : Value} {i : Nat} (h : aextract x i = some v) (hx : VRel ρ x x') (w : World) : ∃ r, (Instr.extract x' i).run P w = .ok r w ∧ VRel ρ v r := by
  unfold aextract at h
  split at h
  · cases hx with | tuple _ xs hs =>
    obtain ⟨r, hr, hv⟩ := hs.get _ _ h
    exact ⟨r, by simp [Instr.extract, hr], hv⟩
  · cases h
def aconv (P : Program) (src dst : TypeId) (x : AV) : Option AV :=
  match P.underlying src, P.underlying dst, x with
  | some _, some (.int k), .int _ n => some (.int k (k.wrap n))
  | some _, some .string, .str s => some (.str s)
  | _, _, _ => none
theorem aconv_sound {src dst : TypeId} {x v : AV} {x' : Value} (h : aconv P src dst x = some v) (hx : VRel ρ x x') (w : World) : ∃ r, (convert src dst x').run P w = .ok r w ∧ VRel ρ v r := by
  unfold aconv at h
  split at h
  · rename_i hs hd
    cases hx; simp only [Option.some.injEq] at h; subst h
    exact ⟨_, by simp [convert, run_underlying hs, run_underlying hd, Conv.intToInt], .int _ _⟩
  · rename_i hs hd
    cases hx; simp only [Option.some.injEq] at h; subst h
    exact ⟨_, by simp [convert, run_underlying hs, run_underlying hd], .str _⟩
  · cases h
def byteOf : List AV → Option UInt8
  | [.int .u8 n] => some (UInt8.ofNat n.toNat)
  | _ => none
def bytesOf : List (List AV) → Option (List UInt8)
  | [] => some []
  | e :: r => match byteOf e, bytesOf r with
    | some b, some l => some (b :: l)
    | _, _ => none
def abytesToStr (P : Program) (H : AHeap) (src dst : TypeId) (x : AV) : Option AV :=
  match P.underlying src, P.underlying dst, x with
  | some (.slice e), some .string, .sl l i n esz _ =>
    (match P.underlying e, aels H l i n esz with
    | some (.int .u8), some ds => if esz = 1 then (bytesOf ds).map .str else none
    | _, _ => none)
  | some (.slice e), some .string, .nilSl => (match P.underlying e with | some (.int .u8) => some (.str []) | _ => none)
  | _, _, _ => none
theorem bytes_fold (f : Value → ByteArray → Sem (ForInStep ByteArray)) (hf : ∀ n s, f (.int .u8 n) s = pure (ForInStep.yield (s.push (UInt8.ofNat n.toNat)))) : ∀ (ds : List (List AV)) (bs : List UInt8), bytesOf ds = some bs → ∀ (xs : List Value), VRels ρ ds.flatten xs → ∀ (acc : ByteArray),
    (forIn xs acc f).run P w = .ok (acc ++ ⟨bs.toArray⟩) w
  | [], bs, h, xs, hx, acc => by
    simp [bytesOf] at h; subst h
    cases hx
    have : acc ++ (⟨#[]⟩ : ByteArray) = acc := by apply ByteArray.ext; simp
    simp [Sem.run_pure, this]
  | d :: ds, bs, h, xs, hx, acc => by
    unfold bytesOf at h
    split at h
    · rename_i b l hb hl
      simp only [Option.some.injEq] at h; subst h
      unfold byteOf at hb
      split at hb
      · rename_i n
        simp only [Option.some.injEq] at hb; subst hb
        cases hx with | cons _ x _ xs' hx1 hx2 =>
        cases hx1
        have ih := bytes_fold f hf ds l hl xs' hx2 (acc.push (UInt8.ofNat n.toNat))
        rw [List.forIn_cons]
        simp only [Sem.run_bind, hf, Sem.run_pure, Result.andThen_ok]
        rw [ih]
        congr 1
        apply ByteArray.ext
        simp
      · cases hb
    · cases h
theorem abytesToStr_sound (hR : Rel ρ H w) {src dst : TypeId} {x v : AV} {x' : Value} (h : abytesToStr P H src dst x = some v) (hx : VRel ρ x x') : ∃ r, (convert src dst x').run P w = .ok r w ∧ VRel ρ v r := by
  unfold abytesToStr at h
  split at h
  · rename_i e l i n esz cap hs hd
    split at h
    · rename_i ds he hels
      split at h
      · rename_i h1
        simp only [Option.map_eq_some_iff] at h
        obtain ⟨bs, hbs, rfl⟩ := h
        cases hx with | sl _ _ _ _ loc a c hl hn hc ha =>
        obtain ⟨o0, o1, o2, xs, o3, o4, o5, o6⟩ := aels_sound hR hels hl
        refine ⟨.string ⟨bs.toArray⟩, ?_, .str _⟩
        have hload : (loadCells a n).run P w = .ok xs.toArray w := by
          rw [h1, Nat.mul_one] at o4
          rw [← o4]
          refine run_loadCells_list w a xs (fun j u hj => ?_)
          have hcp : 0 < c := by
            rcases Nat.eq_zero_or_pos c with h0 | h0
            · have hn0 : n = 0 := by omega
              have : xs = [] := List.eq_nil_of_length_eq_zero (by omega)
              subst this; simp at hj
            · exact h0
          obtain ⟨rfl, _⟩ := ha hcp
          rw [addr_add]; exact o5 j u hj
        have hemp : ByteArray.empty ++ (⟨bs.toArray⟩ : ByteArray) = ⟨bs.toArray⟩ := by apply ByteArray.ext; simp
        simp only [convert, Sem.run_bind, run_underlying hs, run_underlying hd, run_underlying he, Result.andThen_ok, Conv.bytesToString, hload]
        rw [← Array.forIn_toList]
        show ((Sem.run P (forIn xs ByteArray.empty _) w).andThen _) = _
        rw [bytes_fold (P := P) (w := w) _ (fun _ _ => rfl) ds bs hbs xs o3 ByteArray.empty, hemp]; rfl
      · cases h
    · cases h
  · rename_i e hs hd
    cases hx
    split at h
    · rename_i he
      simp only [Option.some.injEq] at h; subst h
      exact ⟨.string ⟨#[]⟩, by simp [convert, run_underlying hs, run_underlying hd, run_underlying he, Conv.bytesToString]; rfl, .str []⟩
    · cases h
  · cases h
def amakeSlice (P : Program) (H : AHeap) (t : TypeId) (l c : AV) : Option (AV × AHeap) :=
  match P.underlying t, l, c with
  | some (.slice e), .int k1 n, .int k2 m =>
    (match tySize P e, tyBytes P e, azero P e with
    | some sz, some by_, some z =>
      if k1 = .i64 ∧ k2 = .i64 ∧ 0 ≤ n ∧ n ≤ m ∧ m ≤ 9223372036854775807 ∧ (by_ : Int) * m ≤ 281474976710656 ∧ z.cells.length = sz ∧ 0 < sz ∧ z.cells.all AV.one = true then
        some (.sl H.next 0 n.toNat sz (some m.toNat), H.push (.row false sz (List.replicate m.toNat z.cells)))
      else none
    | _, _, _ => none)
  | _, _, _ => none
theorem wrap_i64 {n : Int} (h0 : 0 ≤ n) (h1 : n ≤ 9223372036854775807) : IntKind.i64.wrap n = n := IntWalk.i64_in n ⟨by omega, by omega⟩
theorem amakeSlice_sound (hR : Rel ρ H w) (hf : ρ H.next = none) {t : TypeId} {l c a : AV} {l' c' : Value} {H' : AHeap} (h : amakeSlice P H t l c = some (a, H')) (hl : VRel ρ l l') (hc : VRel ρ c c') :
    ∃ r w' ρ', (Instr.makeSlice t l' c').run P w = .ok r w' ∧ VRel ρ' a r ∧ Step ρ H w ρ' H' w' := by
  unfold amakeSlice at h
  split at h
  · rename_i e k1 n k2 m hu
    cases hl; cases hc
    split at h
    · rename_i sz by_ z hsz hby hz
      split at h
      · rename_i hcond
        obtain ⟨rfl, rfl, h0, h1, h2, h3, hzl, hpos, hone⟩ := hcond
        simp only [Option.some.injEq, Prod.mk.injEq] at h
        obtain ⟨rfl, rfl⟩ := h
        obtain ⟨zx, hzx, hzv⟩ := azero_sound hz w
        have hone' : ∀ u ∈ z.cells, u.one = true := by simpa using hone
        have hzc := (hzv ρ).cells
        have hzs : zx.cells.size = sz := by have := hzc.length; rw [← hzl, this]; simp
        have hrep := VRels.flatten_replicate hzc m.toNat
        have hs := push_row_sound hR hf (esz := sz) (els := List.replicate m.toNat z.cells) (fun e he => by rw [List.eq_of_mem_replicate he]; exact hzl)
          (fun e he => by rw [List.eq_of_mem_replicate he]; exact hone') hrep (tail := []) e
        cases hie : P.info? e with
        | none => unfold tySize at hsz; rw [hie] at hsz; cases hsz
        | some ie =>
          have hies : ie.size = sz := by unfold tySize at hsz; rw [hie] at hsz; simpa using hsz
          have hieb : ie.bytes = by_ := by unfold tyBytes at hby; rw [hie] at hby; simpa using hby
          have hlen : (List.replicate m.toNat zx.cells.toList).flatten.length = m.toNat * sz := by simp [hzs]
          refine ⟨.slice (some ⟨w.heap.size, 0, none⟩) n.toNat m.toNat, _, _, ?_, ?_, hs⟩
          · have hw1 := wrap_i64 h0 (Int.le_trans h1 h2)
            have hw2 := wrap_i64 (Int.le_trans h0 h1) h2
            have hnt1 : ¬ (m < 0 ∨ 281474976710656 < (by_ : Int) * m) := by omega
            have hzero := zeros_eq zx.cells m.toNat (by omega)
            rw [hzs] at hzero
            simp only [Instr.makeSlice, Sem.run_bind, run_underlying hu, Result.andThen_ok, asInt, asIntOf, Sem.run_pure, typeInfo, hie, hieb, hw1, hw2, run_program]
            rw [if_neg (by simp; omega)]
            simp only [Sem.run_bind, run_askRoom, Result.andThen_ok, run_sizeOf hsz]
            by_cases hm0 : m.toNat * sz = 0
            · simp only [hm0, if_true]
              have hm1 : m.toNat = 0 := by rcases Nat.mul_eq_zero.1 hm0 with h | h <;> omega
              have er : Array.range 0 = #[] := rfl
              simp [newRow, er, hm1]
            · simp only [hm0, if_false, Sem.run_bind, hzx, Result.andThen_ok, Sem.run_pure, hzs, hzero]
              simp [newRow]
          · refine VRel.sl (ρ := ρ.upd H.next _) H.next 0 n.toNat (some m.toNat) ⟨w.heap.size, 0, sz, _⟩ _ m.toNat (Env.upd_same _ _ _) (by omega) (by simp) (fun _ => ⟨by simp, ?_⟩)
            simp only [Nat.zero_add, hlen]; simp
      · cases h
    · cases h
  · cases h
end
end Go.Ev

namespace Go.Ev
section
variable {P : Program} {ρ : Env} {H : AHeap} {w : World}
def keySame (d : TypeDesc) (a b : AV) : Option Bool :=
  match d, a, b with
  | .int _, .int k x, .int k' y => if k = k' then some (x == y) else none
  | .string, .str x, .str y => some (x == y)
  | .bool, .bool x, .bool y => some (x == y)
  | _, _, _ => none
def afind (d : TypeDesc) (k : AV) : List (AV × AV) → Nat → Option (Option (Nat × AV))
  | [], _ => some none
  | e :: es, i => match keySame d k e.1 with
    | some true => some (some (i, e.2))
    | some false => afind d k es (i + 1)
    | none => none
theorem keySame_sound {d : TypeDesc} {a b : AV} {a' b' : Value} {r : Bool} (h : keySame d a b = some r) (ha : VRel ρ a a') (hb : VRel ρ b b') : Instr.sameNow d a' b' = some r := by
  unfold keySame at h
  split at h
  · cases ha; cases hb
    split at h
    · rename_i hk; subst hk; simpa [Instr.sameNow] using h
    · cases h
  · cases ha; cases hb; simp only [Option.some.injEq] at h; subst h; simp [Instr.sameNow, str_beq]
  · cases ha; cases hb; simpa [Instr.sameNow] using h
  · cases h
inductive FRel (ρ : Env) : Option (Nat × AV) → Option (Nat × Value) → Prop where
  | none : FRel ρ none none
  | some (i : Nat) (v : AV) (x : Value) (h : VRel ρ v x) : FRel ρ (some (i, v)) (some (i, x))
theorem afind_sound {d : TypeDesc} {k : AV} {k' : Value} (hk : VRel ρ k k') : ∀ (es : List (AV × AV)) (ents : List MapEntry) (i : Nat) (r : Option (Nat × AV)), afind d k es i = some r →
    VRels ρ (es.map (·.1)) (ents.map (·.key)) → VRels ρ (es.map (·.2)) (ents.map (·.val)) → ∃ r', Instr.findNow d k' ents i = some r' ∧ FRel ρ r r' ∧ ∀ j v, r = some (j, v) → i ≤ j ∧ j < i + es.length ∧ ∃ e, es[j - i]? = some e ∧ keySame d k e.1 = some true
  | [], ents, i, r, h, h1, h2 => by
    simp [afind] at h; subst h
    have : ents = [] := by
      have := h1.length; simp at this; exact List.eq_nil_of_length_eq_zero this.symm
    subst this
    exact ⟨none, rfl, .none, fun j v h => by cases h⟩
  | e :: es, [], i, r, h, h1, h2 => by have := h1.length; simp at this
  | e :: es, m :: ents, i, r, h, h1, h2 => by
    simp only [List.map_cons] at h1 h2
    cases h1 with | cons _ _ _ _ a1 b1 =>
    cases h2 with | cons _ _ _ _ a2 b2 =>
    unfold afind at h
    unfold Instr.findNow
    split at h
    · rename_i hs
      simp only [Option.some.injEq] at h; subst h
      rw [keySame_sound hs hk a1]
      exact ⟨_, rfl, .some i _ _ a2, fun j v hj => by
        simp only [Option.some.injEq, Prod.mk.injEq] at hj
        obtain ⟨rfl, _⟩ := hj
        exact ⟨Nat.le_refl _, by simp, e, by simp, hs⟩⟩
    · rename_i hs
      rw [keySame_sound hs hk a1]
      obtain ⟨r', h3, h4, h5⟩ := afind_sound hk es ents (i + 1) r h b1 b2
      refine ⟨r', h3, h4, fun j v hj => ?_⟩
      obtain ⟨p1, p2, e', p3, p4⟩ := h5 j v hj
      refine ⟨by omega, by simp; omega, e', ?_, p4⟩
      rw [show j - i = (j - (i + 1)) + 1 by omega]
      simpa using p3
    · cases h
def plainKey (d : TypeDesc) : Bool :=
  match d with
  | .int _ | .string | .bool => true
  | _ => false
theorem checkKey_plain {t : TypeId} {d : TypeDesc} (hu : P.underlying t = some d) (hp : plainKey d = true) (empty : Bool) (v : Value) (n : Nat) (w : World) : (Instr.checkKey empty (n + 1) t v).run P w = .ok () w := by
  unfold Instr.checkKey
  simp only [Sem.run_bind, run_underlying hu, Result.andThen_ok]
  cases d <;> simp [plainKey] at hp <;> rfl
def alookup (P : Program) (H : AHeap) (t : TypeId) (x k : AV) (commaOk : Bool) : Option AV :=
  match P.underlying t with
  | some (.map kt et) =>
    (match P.underlying kt, azero P et with
    | some d, some z =>
      if plainKey d = true then
        (match (match x with | .nilMap => some [] | .map l => (match H.get l with | some (.map es) => some es | _ => none) | _ => none) with
        | some es =>
          (match afind d k es 0 with
          | some (some (_, v)) => some (if commaOk then .tuple [v, .bool true] else v)
          | some none => some (if commaOk then .tuple [z, .bool false] else z)
          | none => none)
        | none => none)
      else none
    | _, _ => none)
  | _ => none
theorem alookup_sound (hR : Rel ρ H w) {t : TypeId} {x k v : AV} {x' k' : Value} {ok : Bool} (h : alookup P H t x k ok = some v) (hx : VRel ρ x x') (hk : VRel ρ k k') :
    ∃ r, (Instr.lookup t x' k' ok).run P w = .ok r w ∧ VRel ρ v r := by
  unfold alookup at h
  split at h
  · rename_i kt et hu
    split at h
    · rename_i d z hd hz
      split at h
      · rename_i hp
        split at h
        · rename_i es hes
          obtain ⟨zx, hzx, hzv⟩ := azero_sound hz w
          have hents : ∃ ents : Array MapEntry, VRels ρ (es.map (·.1)) (ents.toList.map (·.key)) ∧ VRels ρ (es.map (·.2)) (ents.toList.map (·.val)) ∧
              ∀ r' : Option (Nat × Value), Instr.findNow d k' ents.toList 0 = some r' → (Instr.lookup t x' k' ok).run P w =
              .ok (match r' with | some (_, v) => (if ok then .tuple #[v, .bool true] else v) | none => (if ok then .tuple #[zx, .bool false] else zx)) w := by
            split at hes
            · cases hx
              simp only [Option.some.injEq] at hes; subst hes
              refine ⟨#[], by simpa using VRels.nil, by simpa using VRels.nil, fun r' hr' => ?_⟩
              unfold Instr.lookup
              simp only [Sem.run_bind, run_underlying hu, Result.andThen_ok, Sem.run_pure]
              rw [checkKey_plain hd hp]
              simp only [Result.andThen_ok, Instr.findKey, Sem.run_bind, run_underlying hd, hr', Sem.run_pure]
              cases r' with
              | none => simp [hzx]
              | some p => obtain ⟨i, v⟩ := p; simp
            · cases hx with | map l loc hl =>
              split at hes
              · rename_i es' hg
                simp only [Option.some.injEq] at hes; subst hes
                obtain ⟨ents, clock, hb, hget, h1, h2⟩ := getObj_map (P := P) hR hg hl
                refine ⟨ents, h1, h2, fun r' hr' => ?_⟩
                unfold Instr.lookup
                simp only [Sem.run_bind, run_underlying hu, Result.andThen_ok, Sem.run_pure, hget]
                rw [checkKey_plain hd hp]
                simp only [Result.andThen_ok, Instr.findKey, Sem.run_bind, run_underlying hd, hr', Sem.run_pure]
                cases r' with
                | none => simp [hzx]
                | some p => obtain ⟨i, v⟩ := p; simp
              · cases hes
            · cases hes
          obtain ⟨ents, h1, h2, hmain⟩ := hents
          split at h
          · rename_i i v' hf
            simp only [Option.some.injEq] at h; subst h
            obtain ⟨r', e1, e2, _⟩ := afind_sound hk es ents.toList 0 _ hf h1 h2
            cases e2 with | some _ _ y hy =>
            refine ⟨_, hmain _ e1, ?_⟩
            cases ok
            · exact hy
            · exact .tuple _ [y, .bool true] (.cons _ _ _ _ hy (.cons _ _ _ _ (.bool _) .nil))
          · rename_i hf
            simp only [Option.some.injEq] at h; subst h
            obtain ⟨r', e1, e2, _⟩ := afind_sound hk es ents.toList 0 _ hf h1 h2
            cases e2
            refine ⟨_, hmain _ e1, ?_⟩
            cases ok
            · exact hzv ρ
            · exact .tuple _ [zx, .bool false] (.cons _ _ _ _ (hzv ρ) (.cons _ _ _ _ (.bool _) .nil))
          · cases h
        · cases h
      · cases h
    · cases h
  · cases h
def amakeMap (H : AHeap) : AV × AHeap := (.map H.next, H.push (.map []))
theorem amakeMap_sound (hR : Rel ρ H w) (hf : ρ H.next = none) (t : TypeId) : ∃ r w' ρ', (Instr.makeMap t none).run P w = .ok r w' ∧ VRel ρ' (amakeMap H).1 r ∧ Step ρ H w ρ' (amakeMap H).2 w' := by
  have hs := push_sound hR hf (.map []) rfl (.map #[] 0) ⟨w.heap.size, 0, 0, 0⟩ rfl (fun _ _ _ h => by cases h) (fun es h => by
    simp only [ABlk.map.injEq] at h; subst h
    exact ⟨#[], 0, heap_alloc_new _ _, by simpa using VRels.nil, by simpa using VRels.nil⟩)
  refine ⟨.map (some w.heap.size), _, _, ?_, .map H.next ⟨w.heap.size, 0, 0, 0⟩ (Env.upd_same _ _ _), hs⟩
  simp [Instr.makeMap]
theorem setMap_step (hR : Rel ρ H w) {l : Nat} {es es' : List (AV × AV)} (hg : H.get l = some (.map es)) {loc : Loc} (hl : ρ l = some loc) {ents : Array MapEntry} {clock : Nat}
    (h1 : VRels ρ (es'.map (·.1)) (ents.toList.map (·.key))) (h2 : VRels ρ (es'.map (·.2)) (ents.toList.map (·.val))) :
    Step ρ H w ρ (H.set l (.map es')) { w with heap := w.heap.setIfInBounds loc.block (.map ents clock) } := by
  have hlt := AHeap.get_lt hg
  obtain ⟨loc', hl', ents0, clock0, hb, _, _⟩ := hR.map _ _ hg
  obtain rfl : loc = loc' := Option.some.inj (hl.symm.trans hl')
  have hblt := heap_some_lt hb
  have hother : ∀ k, k ≠ loc.block → ({ w with heap := w.heap.setIfInBounds loc.block (.map ents clock) } : World).heap[k]? = w.heap[k]? := fun k hk => by
    show (w.heap.setIfInBounds loc.block _)[k]? = _
    rw [Array.getElem?_setIfInBounds, if_neg (Ne.symm hk)]
  have hne : ∀ l' loc', H.live l' → l' ≠ l → ρ l' = some loc' → loc'.block ≠ loc.block := fun l' loc' h h' e heq =>
    hR.apart l l' loc loc' (.inr ⟨_, hg⟩) h (Ne.symm h') hl e heq.symm
  have hrw : ∀ l', (H.set l (.map es')).rw l' → H.rw l' := by
    intro l' h
    by_cases hll : l = l'
    · subst hll; exact .inr ⟨_, hg⟩
    · simpa [AHeap.rw, AHeap.get_set_other hll] using h
  have hlive : ∀ l', (H.set l (.map es')).live l' → H.live l' := by
    intro l' h
    by_cases hll : l = l'
    · subst hll; exact .inr ⟨_, hg⟩
    · simpa [AHeap.live, AHeap.get_set_other hll] using h
  refine ⟨ρ.le_refl, Nat.le_refl _, fun _ _ => rfl, ⟨?_, ?_, ?_⟩, rfl, rfl, rfl, by simp, ?_, ?_, AHeap.ro_set rfl⟩
  · intro l' ro' esz' els' h
    by_cases hll : l = l'
    · subst hll; rw [AHeap.get_set_same hlt] at h; cases h
    · rw [AHeap.get_set_other hll] at h
      obtain ⟨loc', hl', p1, c', t', fz', p2, p3, p4⟩ := hR.row _ _ _ _ h
      exact ⟨loc', hl', p1, c', t', fz', by rw [hother _ (hne l' loc' (.inl ⟨_, _, _, h⟩) (Ne.symm hll) hl')]; exact p2, p3, p4⟩
  · intro l' es0 h
    by_cases hll : l = l'
    · subst hll
      rw [AHeap.get_set_same hlt] at h
      simp only [Option.some.injEq, ABlk.map.injEq] at h; subst h
      refine ⟨loc, hl, ents, clock, ?_, h1, h2⟩
      show (w.heap.setIfInBounds loc.block _)[loc.block]? = _
      rw [Array.getElem?_setIfInBounds, if_pos rfl, if_pos hblt]
    · rw [AHeap.get_set_other hll] at h
      obtain ⟨loc', hl', ents', clock', p2, p3⟩ := hR.map _ _ h
      exact ⟨loc', hl', ents', clock', by rw [hother _ (hne l' loc' (.inr ⟨_, h⟩) (Ne.symm hll) hl')]; exact p2, p3⟩
  · intro l1 l2 loc1 loc2 h1 h2 hne e1 e2
    exact hR.apart l1 l2 loc1 loc2 (hrw _ h1) (hlive _ h2) hne e1 e2
  · intro b _ hno
    refine hother b ?_
    rintro rfl
    exact hno ⟨l, loc, .inr ⟨_, hg⟩, hl, rfl⟩
  · rintro b ⟨l', loc', h1, h2, h3⟩
    exact .inl ⟨l', loc', hrw _ h1, h2, h3⟩
def amapUpdate (P : Program) (H : AHeap) (t : TypeId) (m k v : AV) : Option AHeap :=
  match P.underlying t, m with
  | some (.map kt _), .map l =>
    (match P.underlying kt, H.get l with
    | some d, some (.map es) =>
      if plainKey d = true then
        (match afind d k es 0 with
        | some (some (i, _)) => some (H.set l (.map (es.set i (k, v))))
        | some none => some (H.set l (.map (es ++ [(k, v)])))
        | none => none)
      else none
    | _, _ => none)
  | _, _ => none
theorem sameBits_key {d : TypeDesc} {a b : AV} {a' b' : Value} (h : keySame d a b = some true) (ha : VRel ρ a a') (hb : VRel ρ b b') (n : Nat) : Instr.sameBits (n + 1) b' a' = true := by
  unfold keySame at h
  split at h
  · cases ha; cases hb
    split at h
    · rename_i hk; subst hk; simp at h; subst h; simp [Instr.sameBits]
    · cases h
  · cases ha; cases hb; simp at h; subst h; simp [Instr.sameBits, str_beq]
  · cases ha; cases hb; simp at h; subst h; simp [Instr.sameBits]
  · cases h
theorem map_set_fst (es : List (AV × AV)) (i : Nat) (k v : AV) : (es.set i (k, v)).map (·.1) = (es.map (·.1)).set i k := by simp [List.map_set]
theorem map_set_snd (es : List (AV × AV)) (i : Nat) (k v : AV) : (es.set i (k, v)).map (·.2) = (es.map (·.2)).set i v := by simp [List.map_set]
theorem amapUpdate_sound (hR : Rel ρ H w) {t : TypeId} {m k v : AV} {m' k' v' : Value} {H' : AHeap} (h : amapUpdate P H t m k v = some H') (hm : VRel ρ m m') (hk : VRel ρ k k') (hv : VRel ρ v v') :
    ∃ w', (Instr.mapUpdate t m' k' v').run P w = .ok () w' ∧ Step ρ H w ρ H' w' := by
  unfold amapUpdate at h
  split at h
  · rename_i kt et l hu
    cases hm with | map _ loc hl =>
    split at h
    · rename_i d es hd hg
      split at h
      · rename_i hp
        obtain ⟨ents, clock, hb, hget, h1, h2⟩ := getObj_map (P := P) hR hg hl
        have hset : ∀ o : Obj, (setObj loc.block o).run P w = .ok () { w with heap := w.heap.setIfInBounds loc.block o } := fun o => by simp [setObj, Sem.run, hb]
        have hpre : ∀ r', Instr.findNow d k' ents.toList 0 = some r' → (Instr.mapUpdate t (.map (some loc.block)) k' v').run P w =
            (match r' with
              | some (i, _) => (do
                let key ← Instr.keyThatStays (((ents[i]?).map (·.key)).getD k') k'
                setObj loc.block (.map (ents.modify i fun e => { e with key, val := v' }) clock) : Sem Unit).run P w
              | none => (setObj loc.block (.map (ents.push { key := k', val := v', born := clock }) (clock + 1))).run P w) := by
          intro r' hr'
          unfold Instr.mapUpdate
          simp only [Sem.run_bind, run_underlying hu, Result.andThen_ok, hget]
          rw [checkKey_plain hd hp]
          simp only [Result.andThen_ok, Instr.findKey, Sem.run_bind, run_underlying hd, hr', Sem.run_pure]
          cases r' with
          | none => rfl
          | some p => obtain ⟨i, v⟩ := p; simp only [Sem.run_bind]
        split at h
        · rename_i i v0 hf
          simp only [Option.some.injEq] at h; subst h
          obtain ⟨r', e1, e2, e3⟩ := afind_sound hk es ents.toList 0 _ hf h1 h2
          cases e2 with | some _ _ y hy =>
          obtain ⟨_, hi, e, he, hs⟩ := e3 i v0 rfl
          simp only [Nat.sub_zero, Nat.zero_add] at he hi
          have hlen := h1.length
          simp only [List.length_map, Array.length_toList] at hlen
          have hil : i < ents.size := by omega
          obtain ⟨ke, hke, hkr⟩ := h1.get i e.1 (by simp [he])
          have hke' : ents[i].key = ke := by simpa [hil] using hke
          have hstay : (Instr.keyThatStays (((ents[i]?).map (·.key)).getD k') k').run P w = .ok k' w := by
            unfold Instr.keyThatStays
            have : ((ents[i]?).map (·.key)).getD k' = ke := by simp [hil, hke']
            rw [this, if_pos (sameBits_key hs hk hkr 9999)]; rfl
          refine ⟨_, ?_, setMap_step hR hg hl (es' := es.set i (k, v)) (ents := ents.modify i fun e => { e with key := k', val := v' }) (clock := clock) ?_ ?_⟩
          · rw [hpre _ e1]
            simp only [Sem.run_bind, hstay, Result.andThen_ok]
            exact hset _
          · rw [map_set_fst]
            have : (ents.modify i fun e => { e with key := k', val := v' }).toList.map (·.key) = (ents.toList.map (·.key)).set i k' := by
              apply List.ext_getElem?
              intro j
              by_cases hj : i = j
              · subst hj; simp [hil]
              · simp [hj]
            rw [this]; exact h1.set hk i
          · rw [map_set_snd]
            have : (ents.modify i fun e => { e with key := k', val := v' }).toList.map (·.val) = (ents.toList.map (·.val)).set i v' := by
              apply List.ext_getElem?
              intro j
              by_cases hj : i = j
              · subst hj; simp [hil]
              · simp [hj]
            rw [this]; exact h2.set hv i
        · rename_i hf
          simp only [Option.some.injEq] at h; subst h
          obtain ⟨r', e1, e2, e3⟩ := afind_sound hk es ents.toList 0 _ hf h1 h2
          cases e2
          refine ⟨_, ?_, setMap_step hR hg hl (es' := es ++ [(k, v)]) (ents := ents.push { key := k', val := v', born := clock }) (clock := clock + 1) ?_ ?_⟩
          · rw [hpre _ e1]; exact hset _
          · simpa using h1.append (.cons _ _ _ _ hk .nil)
          · simpa using h2.append (.cons _ _ _ _ hv .nil)
        · cases h
      · cases h
    · cases h
  · cases h
end
end Go.Ev

namespace Go.Ev
structure Regs where
  t : Tr AV
  size : Nat
def Regs.get (R : Regs) (d : Nat) : AV := match R.t.get d with
  | some v => v
  | none => .tuple []
def Regs.put (R : Regs) (dst : Option Nat) (v : AV) : Option Regs := match dst with
  | none => some R
  | some d => if d < R.size then some { R with t := Tr.put v (d + 1) R.t d } else none
structure RRel (ρ : Env) (R : Regs) (a : Act) : Prop where
  size : R.size = a.tmps.size
  get : ∀ d, VRel ρ (R.get d) (a.tmps.getD d undef)
  none : a.defers = []
theorem RRel.mono {ρ ρ' : Env} {R : Regs} {a : Act} (h : RRel ρ R a) (hle : ρ.le ρ') : RRel ρ' R a := ⟨h.size, fun d => (h.get d).mono hle, h.none⟩
theorem Regs.get_put {R R' : Regs} {dst : Option Nat} {v : AV} (h : R.put dst v = some R') (d : Nat) : R'.get d = if dst = some d then v else R.get d := by
  cases dst with
  | none => simp only [Regs.put, Option.some.injEq] at h; subst h; simp
  | some e =>
    simp only [Regs.put] at h
    split at h
    · simp only [Option.some.injEq] at h; subst h
      by_cases he : e = d
      · subst he; simp [Regs.get, Tr.get_put_same v (e + 1) R.t e (by omega)]
      · have : (some e = some d) = False := by simp [he]
        simp [Regs.get, Tr.get_put_other v (e + 1) R.t e d he, he]
    · cases h
theorem Regs.size_put {R R' : Regs} {dst : Option Nat} {v : AV} (h : R.put dst v = some R') : R'.size = R.size := by
  cases dst with
  | none => simp only [Regs.put, Option.some.injEq] at h; subst h; rfl
  | some e =>
    simp only [Regs.put] at h
    split at h
    · simp only [Option.some.injEq] at h; subst h; rfl
    · cases h
theorem Regs.put_lt {R R' : Regs} {d : Nat} {v : AV} (h : R.put (some d) v = some R') : d < R.size := by
  simp only [Regs.put] at h
  split at h
  · assumption
  · cases h
theorem RRel.put {ρ : Env} {R R' : Regs} {a : Act} {dst : Option Nat} {v : AV} {x : Value} (h : RRel ρ R a) (hp : R.put dst v = some R') (hv : VRel ρ v x) : RRel ρ R' (a.put dst x) := by
  refine ⟨?_, fun d => ?_, ?_⟩
  · rw [Regs.size_put hp, h.size]; cases dst <;> simp [Act.put]
  · rw [Regs.get_put hp]
    cases dst with
    | none => simpa [Act.put] using h.get d
    | some e =>
      have hlt := Regs.put_lt hp
      rw [h.size] at hlt
      by_cases he : e = d
      · subst he; simpa [Act.put, hlt] using hv
      · have := h.get d
        simp only [Option.some.injEq, he, if_false, Act.put, Array.getD_eq_getD_getElem?, Array.getElem?_setIfInBounds]
        simpa using this
  · cases dst <;> simpa [Act.put] using h.none
def aval (R : Regs) : Operand → Option AV
  | .tmp t => some (R.get t)
  | .const v => ofVal v
  | .global _ => none
  | .func f => some (.func (.func f) [] [])
section
variable {P : Program} {ρ : Env} {H : AHeap} {w : World} {R : Regs} {a : Act}
theorem aval_sound (hr : RRel ρ R a) {x : Operand} {v : AV} (h : aval R x = some v) : VRel ρ v (a.eval x) := by
  cases x with
  | tmp t => simp only [aval, Option.some.injEq] at h; subst h; exact hr.get t
  | const c => exact ofVal_sound h ρ
  | global g => cases h
  | func f => simp only [aval, Option.some.injEq] at h; subst h; exact .func (.func f) [] [] [] [] .nil .nil
def avals (R : Regs) : List Operand → Option (List AV)
  | [] => some []
  | x :: xs => match aval R x, avals R xs with
    | some v, some vs => some (v :: vs)
    | _, _ => none
theorem avals_sound (hr : RRel ρ R a) : ∀ {xs : List Operand} {vs : List AV}, avals R xs = some vs → VRels ρ vs (xs.map a.eval)
  | [], vs, h => by simp only [avals, Option.some.injEq] at h; subst h; exact .nil
  | x :: xs, vs, h => by
    simp only [avals] at h
    split at h
    · rename_i v vs' hv hvs
      simp only [Option.some.injEq] at h; subst h
      exact .cons _ _ _ _ (aval_sound hr hv) (avals_sound hr hvs)
    · cases h
def aparts (R : Regs) : List (Nat × Operand) → Option (List (Nat × AV))
  | [] => some []
  | (i, x) :: xs => match aval R x, aparts R xs with
    | some v, some vs => some ((i, v) :: vs)
    | _, _ => none
theorem aparts_sound (hr : RRel ρ R a) : ∀ {xs : List (Nat × Operand)} {vs : List (Nat × AV)}, aparts R xs = some vs → PRel ρ vs (xs.map fun (i, x) => (i, a.eval x))
  | [], vs, h => by simp only [aparts, Option.some.injEq] at h; subst h; exact trivial
  | (i, x) :: xs, vs, h => by
    simp only [aparts] at h
    split at h
    · rename_i v vs' hv hvs
      simp only [Option.some.injEq] at h; subst h
      exact ⟨rfl, aval_sound hr hv, aparts_sound hr hvs⟩
    · cases h
def avalO (R : Regs) : Option Operand → Option (Option AV)
  | none => some none
  | some x => match aval R x with
    | some v => some (some v)
    | none => none
theorem avalO_sound (hr : RRel ρ R a) {x : Option Operand} {v : Option AV} (h : avalO R x = some v) : ORel ρ v (x.map a.eval) := by
  cases x with
  | none => simp only [avalO, Option.some.injEq] at h; subst h; exact .none
  | some x =>
    simp only [avalO] at h
    split at h
    · rename_i u hu
      simp only [Option.some.injEq] at h; subst h; exact .some _ _ (aval_sound hr hu)
    · cases h
def anil : AV → Option AV
  | .ptr l i c => some (.ptr l i c)
  | .iface t v => some (.iface t v)
  | .func (.func f) x y => some (.func (.func f) x y)
  | _ => none
def aiface (P : Program) (t : TypeId) (v : AV) : Option AV :=
  match P.underlying t with
  | some (.interface _) => none
  | some _ => some (.iface t v)
  | none => none
def abuiltin (P : Program) (H : AHeap) (b : Builtin) (ts : List TypeId) (vs : List AV) : Option AV :=
  match b, ts, vs with
  | .len, [t], [x] => alen P H t x
  | .max, _, [x, y] => amax2 x y
  | .min, _, [x, y] => amin2 x y
  | _, _, _ => none
def apure (P : Program) (o : Op) (R : Regs) : Option AV :=
  match o with
  | .move x => aval R x
  | .assign x => aval R x
  | .pick c a b => match aval R c with
    | some (.bool t) => if t then aval R a else aval R b
    | _ => none
  | .build t ps => (aparts R ps.toList).bind (abuild P t)
  | .nilCheck x => (aval R x).bind anil
  | .binOp op t x y _ => (aval R x).bind fun u => (aval R y).bind fun v => abin P op t x y u v
  | .unOp op _ x => (aval R x).bind (aun op)
  | .convert s d x => (aval R x).bind (aconv P s d)
  | .makeInterface t x => (aval R x).bind (aiface P t)
  | .makeFunc fn f c => (avals R f.toList).bind fun fs => (avals R c.toList).bind fun cs => some (.func fn fs cs)
  | .slice t x lo hi mx => (aval R x).bind fun v => (avalO R lo).bind fun l => (avalO R hi).bind fun h => (avalO R mx).bind fun m => aslice P t v l h m
  | .fieldAddr t x f => (aval R x).bind fun v => afieldAddr P t v f
  | .field t x f => (aval R x).bind fun v => afield P t v f
  | .indexAddr t x i => (aval R x).bind fun u => (aval R i).bind fun v => aindexAddr P t u v
  | .index t x i => (aval R x).bind fun u => (aval R i).bind fun v => aindex P t u v
  | .extract x i => (aval R x).bind fun v => aextract v i
  | .call c => match c.callee with
    | .builtin b => (avals R c.args.toList).bind (abuiltin P .empty b c.argTypes.toList)
    | _ => none
  | _ => none
theorem run_v {s : Sem Value} {x : Value} {w w' : World} (h : s.run P w = .ok x w') : (do pure (.value (← s)) : Sem Next).run P w = .ok (.value x) w' := by
  simp [h]
theorem run_u {s : Sem Unit} {w w' : World} (h : s.run P w = .ok () w') : (do s; pure .skip : Sem Next).run P w = .ok .skip w' := by
  simp [h]
theorem Rel.empty (ρ : Env) (w : World) (n : Nat) : Rel ρ ⟨.leaf, n⟩ w := by
  have : ∀ l, (⟨.leaf, n⟩ : AHeap).get l = none := fun l => by unfold AHeap.get; split <;> first | exact Tr.get_leaf _ | rfl
  refine ⟨fun l _ _ _ h => ?_, fun l _ h => ?_, fun l l' _ _ h => ?_⟩
  · rw [this] at h; cases h
  · rw [this] at h; cases h
  · rcases h with ⟨_, _, h⟩ | ⟨_, h⟩ <;> (rw [this] at h; cases h)
theorem abuiltin_sound (hR : Rel ρ H w) {b : Builtin} {ts : List TypeId} {vs : List AV} {v : AV} {xs : List Value} (h : abuiltin P H b ts vs = some v) (hv : VRels ρ vs xs) (ty : TypeId) (cs : Array Bool) :
    ∃ x, (builtin b ts.toArray ty cs xs.toArray).run P w = .ok (.value x) w ∧ VRel ρ v x := by
  unfold abuiltin at h
  split at h
  · cases hv with | cons _ x _ _ h1 h2 =>
    cases h2
    obtain ⟨r, e1, e2⟩ := alen_sound hR ty h h1
    exact ⟨r, run_v e1, e2⟩
  · cases hv with | cons _ x _ _ h1 h2 =>
    cases h2 with | cons _ y _ _ h3 h4 =>
    cases h4
    obtain ⟨r, e1, e2⟩ := amax_sound (P := P) ts.toArray ty h h1 h3 w
    exact ⟨r, run_v e1, e2⟩
  · cases hv with | cons _ x _ _ h1 h2 =>
    cases h2 with | cons _ y _ _ h3 h4 =>
    cases h4
    obtain ⟨r, e1, e2⟩ := amin_sound (P := P) ts.toArray ty h h1 h3 w
    exact ⟨r, run_v e1, e2⟩
  · cases h
theorem map_toArray {α β : Type} (f : α → β) (xs : Array α) : xs.map f = (xs.toList.map f).toArray := by cases xs; simp
theorem run_builtin_call {o : Oper} {c : Call} {b : Builtin} (ho : o.op = .call c) (hc : c.callee = .builtin b) (w : World) :
    (execOp a.eval o).run P w = (builtin b c.argTypes o.type (c.args.map fun | .const _ => true | _ => false) (c.args.map a.eval)).run P w := by
  unfold execOp
  rw [ho]
  simp only [resolve, hc]
  rfl
theorem apure_sound {o : Oper} {v : AV} (h : apure P o.op R = some v) (hr : RRel ρ R a) (w : World) : ∃ x, (execOp a.eval o).run P w = .ok (.value x) w ∧ VRel ρ v x := by
  unfold apure at h
  split at h
  · rename_i x ho
    exact ⟨_, by unfold execOp; rw [ho]; rfl, aval_sound hr h⟩
  · rename_i x ho
    exact ⟨_, by unfold execOp; rw [ho]; rfl, aval_sound hr h⟩
  · rename_i c x y ho
    split at h
    · rename_i t ht
      have h1 := aval_sound hr ht
      have h2 : a.eval c = .bool t := by
        generalize a.eval c = z at h1
        cases h1; rfl
      cases t
      · exact ⟨_, by unfold execOp; rw [ho]; simp only [h2]; rfl, aval_sound hr h⟩
      · exact ⟨_, by unfold execOp; rw [ho]; simp only [h2]; rfl, aval_sound hr h⟩
    · cases h
  · rename_i t ps ho
    simp only [Option.bind_eq_some_iff] at h
    obtain ⟨vs, h1, h2⟩ := h
    obtain ⟨x, e1, e2⟩ := abuild_sound h2 (aparts_sound hr h1) w
    refine ⟨x, ?_, e2⟩
    unfold execOp; rw [ho]
    rw [← map_toArray] at e1
    exact run_v e1
  · rename_i x ho
    simp only [Option.bind_eq_some_iff] at h
    obtain ⟨u, h1, h2⟩ := h
    have h3 := aval_sound hr h1
    refine ⟨a.eval x, ?_, ?_⟩
    · unfold execOp; rw [ho]
      simp only
      generalize a.eval x = z at h3
      unfold anil at h2
      split at h2
      · cases h3; rfl
      · cases h3; rfl
      · cases h3; rfl
      · cases h2
    · unfold anil at h2
      split at h2 <;> first | (simp only [Option.some.injEq] at h2; subst h2; exact h3) | cases h2
  · rename_i op t x y yt ho
    simp only [Option.bind_eq_some_iff] at h
    obtain ⟨u, h1, z, h2, h3⟩ := h
    obtain ⟨r, e1, e2⟩ := abin_sound h3 (aval_sound hr h1) (aval_sound hr h2) w
    exact ⟨r, by unfold execOp; rw [ho]; exact run_v e1, e2⟩
  · rename_i op t x ho
    simp only [Option.bind_eq_some_iff] at h
    obtain ⟨u, h1, h3⟩ := h
    obtain ⟨r, e1, e2⟩ := aun_sound h3 (aval_sound hr h1) w
    exact ⟨r, by unfold execOp; rw [ho]; exact run_v e1, e2⟩
  · rename_i s d x ho
    simp only [Option.bind_eq_some_iff] at h
    obtain ⟨u, h1, h3⟩ := h
    obtain ⟨r, e1, e2⟩ := aconv_sound h3 (aval_sound hr h1) w
    exact ⟨r, by unfold execOp; rw [ho]; exact run_v e1, e2⟩
  · rename_i t x ho
    simp only [Option.bind_eq_some_iff] at h
    obtain ⟨u, h1, h3⟩ := h
    have h4 := aval_sound hr h1
    unfold aiface at h3
    split at h3
    · cases h3
    · rename_i d hne hu
      simp only [Option.some.injEq] at h3; subst h3
      refine ⟨.iface t (a.eval x), ?_, .iface _ _ _ h4⟩
      unfold execOp; rw [ho]
      refine run_v ?_
      unfold Instr.makeInterface
      simp only [Sem.run_bind, run_underlying hu, Result.andThen_ok]
      cases d <;> first | rfl | exact absurd rfl (hne _)
    · cases h3
  · rename_i fn f c ho
    simp only [Option.bind_eq_some_iff, Option.some.injEq] at h
    obtain ⟨fs, h1, cs, h2, rfl⟩ := h
    refine ⟨_, ?_, .func fn fs cs _ _ (avals_sound hr h1) (avals_sound hr h2)⟩
    unfold execOp; rw [ho]
    rw [← map_toArray, ← map_toArray]
    rfl
  · rename_i t x lo hi mx ho
    simp only [Option.bind_eq_some_iff] at h
    obtain ⟨u, h1, l, h2, k, h3, m, h4, h5⟩ := h
    obtain ⟨r, e1, e2⟩ := aslice_sound h5 (aval_sound hr h1) (avalO_sound hr h2) (avalO_sound hr h3) (avalO_sound hr h4) w
    exact ⟨r, by unfold execOp; rw [ho]; exact run_v e1, e2⟩
  · rename_i t x f ho
    simp only [Option.bind_eq_some_iff] at h
    obtain ⟨u, h1, h3⟩ := h
    obtain ⟨r, e1, e2⟩ := afieldAddr_sound h3 (aval_sound hr h1) w
    exact ⟨r, by unfold execOp; rw [ho]; exact run_v e1, e2⟩
  · rename_i t x f ho
    simp only [Option.bind_eq_some_iff] at h
    obtain ⟨u, h1, h3⟩ := h
    obtain ⟨r, e1, e2⟩ := afield_sound h3 (aval_sound hr h1) w
    exact ⟨r, by unfold execOp; rw [ho]; exact run_v e1, e2⟩
  · rename_i t x i ho
    simp only [Option.bind_eq_some_iff] at h
    obtain ⟨u, h1, z, h2, h3⟩ := h
    obtain ⟨r, e1, e2⟩ := aindexAddr_sound h3 (aval_sound hr h1) (aval_sound hr h2) w
    exact ⟨r, by unfold execOp; rw [ho]; exact run_v e1, e2⟩
  · rename_i t x i ho
    simp only [Option.bind_eq_some_iff] at h
    obtain ⟨u, h1, z, h2, h3⟩ := h
    obtain ⟨r, e1, e2⟩ := aindex_sound h3 (aval_sound hr h1) (aval_sound hr h2) w
    exact ⟨r, by unfold execOp; rw [ho]; exact run_v e1, e2⟩
  · rename_i x i ho
    simp only [Option.bind_eq_some_iff] at h
    obtain ⟨u, h1, h3⟩ := h
    obtain ⟨r, e1, e2⟩ := aextract_sound h3 (aval_sound hr h1) w
    exact ⟨r, by unfold execOp; rw [ho]; exact run_v e1, e2⟩
  · rename_i c ho
    split at h
    · rename_i b hc
      simp only [Option.bind_eq_some_iff] at h
      obtain ⟨vs, h1, h2⟩ := h
      obtain ⟨x, e1, e2⟩ := abuiltin_sound (Rel.empty ρ w 0) h2 (avals_sound hr h1) o.type (c.args.map fun | .const _ => true | _ => false)
      refine ⟨x, ?_, e2⟩
      rw [run_builtin_call ho hc, map_toArray a.eval]
      simpa using e1
    · cases h
  · cases h
def aread (P : Program) (o : Op) (R : Regs) (H : AHeap) : Option AV :=
  match o with
  | .load t x => (aval R x).bind (aload P H t)
  | .lookup t x k ok => (aval R x).bind fun u => (aval R k).bind fun v => alookup P H t u v ok
  | .convert s d x => (aval R x).bind (abytesToStr P H s d)
  | .call c => match c.callee with
    | .builtin b => (avals R c.args.toList).bind (abuiltin P H b c.argTypes.toList)
    | _ => none
  | _ => none
theorem aread_sound (hR : Rel ρ H w) {o : Oper} {v : AV} (h : aread P o.op R H = some v) (hr : RRel ρ R a) : ∃ x, (execOp a.eval o).run P w = .ok (.value x) w ∧ VRel ρ v x := by
  unfold aread at h
  split at h
  · rename_i t x ho
    simp only [Option.bind_eq_some_iff] at h
    obtain ⟨u, h1, h3⟩ := h
    obtain ⟨r, e1, e2⟩ := aload_sound hR h3 (aval_sound hr h1)
    exact ⟨r, by unfold execOp; rw [ho]; exact run_v e1, e2⟩
  · rename_i t x k ok ho
    simp only [Option.bind_eq_some_iff] at h
    obtain ⟨u, h1, z, h2, h3⟩ := h
    obtain ⟨r, e1, e2⟩ := alookup_sound hR h3 (aval_sound hr h1) (aval_sound hr h2)
    exact ⟨r, by unfold execOp; rw [ho]; exact run_v e1, e2⟩
  · rename_i s d x ho
    simp only [Option.bind_eq_some_iff] at h
    obtain ⟨u, h1, h3⟩ := h
    obtain ⟨r, e1, e2⟩ := abytesToStr_sound hR h3 (aval_sound hr h1)
    exact ⟨r, by unfold execOp; rw [ho]; exact run_v e1, e2⟩
  · rename_i c ho
    split at h
    · rename_i b hc
      simp only [Option.bind_eq_some_iff] at h
      obtain ⟨vs, h1, h2⟩ := h
      obtain ⟨x, e1, e2⟩ := abuiltin_sound hR h2 (avals_sound hr h1) o.type (c.args.map fun | .const _ => true | _ => false)
      refine ⟨x, ?_, e2⟩
      rw [run_builtin_call ho hc, map_toArray a.eval]
      simpa using e1
    · cases h
  · cases h
def anewH (P : Program) (o : Op) (R : Regs) (H : AHeap) : Option (AV × AHeap) :=
  match o with
  | .alloc t => aalloc P H t
  | .box _ x => (aval R x).bind (abox H)
  | .buildSlice t n ps => (aparts R ps.toList).bind (abuildSlice P H t n)
  | .makeMap _ none => some (amakeMap H)
  | .makeSlice t l c => (aval R l).bind fun u => (aval R c).bind fun v => amakeSlice P H t u v
  | _ => none
theorem anewH_sound (hR : Rel ρ H w) (hf : ρ H.next = none) {o : Oper} {v : AV} {H' : AHeap} (h : anewH P o.op R H = some (v, H')) (hr : RRel ρ R a) :
    ∃ x w' ρ', (execOp a.eval o).run P w = .ok (.value x) w' ∧ VRel ρ' v x ∧ Step ρ H w ρ' H' w' := by
  unfold anewH at h
  split at h
  · rename_i t ho
    obtain ⟨r, w', ρ', e1, e2, e3⟩ := aalloc_sound hR hf h
    exact ⟨r, w', ρ', by unfold execOp; rw [ho]; exact run_v e1, e2, e3⟩
  · rename_i t x ho
    simp only [Option.bind_eq_some_iff] at h
    obtain ⟨u, h1, h3⟩ := h
    obtain ⟨r, w', ρ', e1, e2, e3⟩ := abox_sound (P := P) hR hf h3 (aval_sound hr h1) t
    exact ⟨r, w', ρ', by unfold execOp; rw [ho]; exact run_v e1, e2, e3⟩
  · rename_i t n ps ho
    simp only [Option.bind_eq_some_iff] at h
    obtain ⟨u, h1, h3⟩ := h
    obtain ⟨r, w', ρ', e1, e2, e3⟩ := abuildSlice_sound hR hf h3 (aparts_sound hr h1)
    refine ⟨r, w', ρ', ?_, e2, e3⟩
    unfold execOp; rw [ho]
    rw [← map_toArray] at e1
    exact run_v e1
  · rename_i t ho
    simp only [Option.some.injEq] at h
    obtain ⟨r, w', ρ', e1, e2, e3⟩ := amakeMap_sound (P := P) hR hf t
    rw [h] at e2 e3
    exact ⟨r, w', ρ', by unfold execOp; rw [ho]; exact run_v e1, e2, e3⟩
  · rename_i t l c ho
    simp only [Option.bind_eq_some_iff] at h
    obtain ⟨u, h1, z, h2, h3⟩ := h
    obtain ⟨r, w', ρ', e1, e2, e3⟩ := amakeSlice_sound hR hf h3 (aval_sound hr h1) (aval_sound hr h2)
    exact ⟨r, w', ρ', by unfold execOp; rw [ho]; exact run_v e1, e2, e3⟩
  · cases h
def ABlk.isRw : ABlk → Bool
  | .row false _ _ => true
  | .map _ => true
  | _ => false
theorem ABlk.isRw.ro {b : ABlk} (h : b.isRw = true) : b.isRo = false := by
  cases b with
  | row ro e s => cases ro <;> first | rfl | cases h
  | map es => rfl
  | dead => rfl
def newOf (r : Option (AV × AHeap)) (l : Nat) : Option (AV × ABlk) :=
  match r with
  | some (v, H') => if H'.next = l + 1 then (match H'.get l with
    | some b => if b.isRw then some (v, b) else none
    | none => none) else none
  | none => none
def anew (P : Program) (o : Op) (R : Regs) (l : Nat) : Option (AV × ABlk) := newOf (anewH P o R ⟨.leaf, l⟩) l
def awrite (P : Program) (o : Op) (R : Regs) (H : AHeap) : Option (AV × AHeap) :=
  match o with
  | .store t x y => (aval R x).bind fun u => (aval R y).bind fun v => (astore P H t u v).map fun H' => (.tuple [], H')
  | .mapUpdate t m k x => (aval R m).bind fun u => (aval R k).bind fun v => (aval R x).bind fun z => (amapUpdate P H t u v z).map fun H' => (.tuple [], H')
  | .insert t m k x => (aval R m).bind fun u => (aval R k).bind fun v => (aval R x).bind fun z => (amapUpdate P H t u v z).map fun H' => (.tuple [], H')
  | .call c => match c.callee, c.args.toList with
    | .builtin .append, [s, x] => (aval R s).bind fun u => (aval R x).bind fun v => aappend P H c.argTypes.toList u v
    | _, _ => none
  | _ => none
def Done (x : Value) : Next → Prop
  | .value y => y = x
  | .skip => x = undef
  | _ => False
theorem awrite_sound (hR : Rel ρ H w) {o : Oper} {v : AV} {H' : AHeap} (h : awrite P o.op R H = some (v, H')) (hf : H.next < H'.next → ρ H.next = none) (hr : RRel ρ R a) :
    ∃ n x w' ρ', (execOp a.eval o).run P w = .ok n w' ∧ Done x n ∧ VRel ρ' v x ∧ Step ρ H w ρ' H' w' := by
  unfold awrite at h
  split at h
  · rename_i t x y ho
    simp only [Option.bind_eq_some_iff, Option.map_eq_some_iff, Prod.mk.injEq] at h
    obtain ⟨u, h1, z, h2, H1, h3, rfl, rfl⟩ := h
    obtain ⟨w', e1, e2⟩ := astore_sound hR h3 (aval_sound hr h1) (aval_sound hr h2)
    exact ⟨.skip, undef, w', ρ, by unfold execOp; rw [ho]; exact run_u e1, rfl, .tuple [] [] .nil, e2⟩
  · rename_i t m k x ho
    simp only [Option.bind_eq_some_iff, Option.map_eq_some_iff, Prod.mk.injEq] at h
    obtain ⟨u, h1, z, h2, y, h4, H1, h3, rfl, rfl⟩ := h
    obtain ⟨w', e1, e2⟩ := amapUpdate_sound hR h3 (aval_sound hr h1) (aval_sound hr h2) (aval_sound hr h4)
    exact ⟨.skip, undef, w', ρ, by unfold execOp; rw [ho]; exact run_u e1, rfl, .tuple [] [] .nil, e2⟩
  · rename_i t m k x ho
    simp only [Option.bind_eq_some_iff, Option.map_eq_some_iff, Prod.mk.injEq] at h
    obtain ⟨u, h1, z, h2, y, h4, H1, h3, rfl, rfl⟩ := h
    obtain ⟨w', e1, e2⟩ := amapUpdate_sound hR h3 (aval_sound hr h1) (aval_sound hr h2) (aval_sound hr h4)
    exact ⟨.skip, undef, w', ρ, by unfold execOp; rw [ho]; exact run_u e1, rfl, .tuple [] [] .nil, e2⟩
  · rename_i c ho
    split at h
    · rename_i s x hc hargs
      simp only [Option.bind_eq_some_iff] at h
      obtain ⟨u, h1, z, h2, h3⟩ := h
      obtain ⟨r, w', ρ', e1, e2, e3⟩ := aappend_sound hR o.type h3 hf (aval_sound hr h1) (aval_sound hr h2)
      refine ⟨.value r, r, w', ρ', ?_, rfl, e2, e3⟩
      rw [run_builtin_call ho hc, map_toArray a.eval, hargs]
      refine run_v (s := Builtin.append_ c.argTypes o.type _) ?_
      simpa using e1
    · cases h
  · cases h
end
end Go.Ev

