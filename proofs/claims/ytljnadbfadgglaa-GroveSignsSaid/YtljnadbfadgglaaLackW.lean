/- Plain: what the last three digits of a text tell: the digits are 0 to 15, make 480, and no other digest's are all as great. No condition. -/
import Derived.Test.YtljnadbfadgglaaDig
namespace Go.Proofs.Ytljnadbfadgglaa
open Go.RowKit
set_option maxRecDepth 100000

theorem list_eq_of_le : ∀ (a b : List Nat), a.length = b.length → (∀ j, j < a.length → a.getD j 0 ≤ b.getD j 0) → b.sum ≤ a.sum → a = b
  | [], [], _, _, _ => rfl
  | [], y :: s, h, _, _ => by simp at h
  | x :: r, [], h, _, _ => by simp at h
  | x :: r, y :: s, h, hle, hs => by
    have h0 : x ≤ y := by simpa using hle 0 (by simp)
    have hr : ∀ j, j < r.length → r.getD j 0 ≤ s.getD j 0 := fun j hj => by simpa using hle (j + 1) (by simp; omega)
    have hl : r.length = s.length := by simpa using h
    have hsum : ∀ (a b : List Nat), a.length = b.length → (∀ j, j < a.length → a.getD j 0 ≤ b.getD j 0) → a.sum ≤ b.sum := by
      intro a
      induction a with
      | nil => intro b _ _; simp
      | cons x r ih =>
        intro b hb hj
        cases b with
        | nil => simp at hb
        | cons y s =>
          have h0 : x ≤ y := by simpa using hj 0 (by simp)
          have := ih s (by simpa using hb) (fun j hj' => by simpa using hj (j + 1) (by simp; omega))
          simp; omega
    have h2 := hsum r s hl hr
    simp at hs
    obtain rfl : x = y := by omega
    rw [list_eq_of_le r s hl hr (by omega)]

theorem flat_inj : ∀ (a b : List UInt8), a.length = b.length → (a.flatMap fun c => [c.toNat / 16, c.toNat % 16]) = (b.flatMap fun c => [c.toNat / 16, c.toNat % 16]) → a = b
  | [], [], _, _ => rfl
  | [], y :: s, h, _ => by simp at h
  | x :: r, [], h, _ => by simp at h
  | x :: r, y :: s, h, he => by
    simp only [List.flatMap_cons, List.cons_append, List.nil_append, List.cons.injEq] at he
    have hx : x.toNat = y.toNat := by omega
    rw [UInt8.toNat_inj.1 hx, flat_inj r s (by simpa using h) he.2.2]

theorem nibs_sum (l : List UInt8) : ∀ k, (nibs l k).sum = nibSum l k
  | 0 => by simp [nibs, nibSum]
  | k + 1 => by
    rcases Nat.lt_or_ge k l.length with h | h
    · rw [nibs_succ l k h, nibSum_succ l k h, List.sum_append, nibs_sum l k]; simp
    · have e1 : nibs l (k + 1) = nibs l k := by unfold nibs; rw [List.take_of_length_le (by omega), List.take_of_length_le h]
      have e2 : nibSum l (k + 1) = nibSum l k := by unfold nibSum; rw [List.take_of_length_le (by omega), List.take_of_length_le h]
      rw [e1, e2, nibs_sum l k]
theorem nibs_le (l : List UInt8) (k : Nat) : ∀ x ∈ nibs l k, x ≤ 15 := by
  intro x hx
  unfold nibs at hx
  rw [List.mem_flatMap] at hx
  obtain ⟨b, _, hb⟩ := hx
  have := b.toNat_lt
  simp at hb
  omega

theorem digs_length (l : List UInt8) (h : 16 ≤ l.length) : (digs l).length = 35 := by
  unfold digs; rw [List.length_append, nibs_length]; simp; omega
theorem digs_le (l : List UInt8) (j : Nat) : (digs l).getD j 0 ≤ 15 := by
  rw [List.getD_eq_getElem?_getD]
  cases hc : (digs l)[j]? with
  | none => simp
  | some x =>
    have hm := List.mem_of_getElem? hc
    unfold digs at hm
    rw [List.mem_append] at hm
    rcases hm with hm | hm
    · simpa using nibs_le l 16 x hm
    · have := nibSum_le l 16
      simp at hm
      simp; omega
theorem digs_take (l : List UInt8) (h : 16 ≤ l.length) : (digs l).take 32 = nibs l 16 := by
  unfold digs
  rw [List.take_append_of_le_length (by rw [nibs_length]; omega), List.take_of_length_le (by rw [nibs_length]; omega)]
theorem digs_at (l : List UInt8) (h : 16 ≤ l.length) (i : Nat) : (digs l).getD (32 + i) 0 = [(480 - nibSum l 16) / 256, (480 - nibSum l 16) / 16 % 16, (480 - nibSum l 16) % 16].getD i 0 := by
  have hl := nibs_length l 16
  unfold digs
  rw [List.getD_eq_getElem?_getD, List.getElem?_append_right (by omega), List.getD_eq_getElem?_getD]
  congr 2
  omega
theorem digs_lo (l : List UInt8) (h : 16 ≤ l.length) (j : Nat) (hj : j < 32) : (digs l).getD j 0 = (nibs l 16).getD j 0 := by
  have hl := nibs_length l 16
  unfold digs
  rw [List.getD_eq_getElem?_getD, List.getElem?_append_left (by omega), List.getD_eq_getElem?_getD]
/-- What the last three tell, and the first thirty-two, are 480. -/
theorem digs_480 (l : List UInt8) (h : 16 ≤ l.length) : 256 * (digs l).getD 32 0 + 16 * (digs l).getD 33 0 + (digs l).getD 34 0 + ((digs l).take 32).sum = 480 := by
  rw [digs_take l h, nibs_sum]
  have := digs_at l h 0
  have := digs_at l h 1
  have := digs_at l h 2
  have hle := nibSum_le l 16
  simp at *
  omega
/-- No other digest's digits are all as great. -/
theorem digs_inj (a b : List UInt8) (ha : 16 ≤ a.length) (hb : 16 ≤ b.length) (h : ∀ j, j < 35 → (digs a).getD j 0 ≤ (digs b).getD j 0) : a.take 16 = b.take 16 := by
  have h1 : (digs a).getD 32 0 = (480 - nibSum a 16) / 256 := digs_at a ha 0
  have h2 : (digs a).getD 33 0 = (480 - nibSum a 16) / 16 % 16 := digs_at a ha 1
  have h3 : (digs a).getD 34 0 = (480 - nibSum a 16) % 16 := digs_at a ha 2
  have h1' : (digs b).getD 32 0 = (480 - nibSum b 16) / 256 := digs_at b hb 0
  have h2' : (digs b).getD 33 0 = (480 - nibSum b 16) / 16 % 16 := digs_at b hb 1
  have h3' : (digs b).getD 34 0 = (480 - nibSum b 16) % 16 := digs_at b hb 2
  have g1 := h 32 (by omega)
  have g2 := h 33 (by omega)
  have g3 := h 34 (by omega)
  have la := nibSum_le a 16
  have lb := nibSum_le b 16
  have hs : nibSum b 16 ≤ nibSum a 16 := by omega
  have hl : (nibs a 16).length = 32 := by rw [nibs_length]; omega
  have hl' : (nibs b 16).length = 32 := by rw [nibs_length]; omega
  have := list_eq_of_le (nibs a 16) (nibs b 16) (by omega) (fun j hj => by
    rw [← digs_lo a ha j (by omega), ← digs_lo b hb j (by omega)]
    exact h j (by omega)) (by rw [nibs_sum, nibs_sum]; exact hs)
  exact flat_inj _ _ (by rw [List.length_take, List.length_take]; omega) this

/-- The sum that the law's loop has made after k digits. -/
def lackTo (l : List Nat) (k : Nat) : Nat := 256 * l.getD 32 0 + 16 * l.getD 33 0 + l.getD 34 0 + (l.take (min k 32)).sum
theorem lackTo_lo (l : List Nat) (k : Nat) (h : k < 32) (hl : l.length = 35) : lackTo l (k + 1) = lackTo l k + l.getD k 0 := by
  unfold lackTo
  rw [Nat.min_eq_left (by omega), Nat.min_eq_left (by omega), List.take_succ_eq_append_getElem (by omega), List.sum_append]
  simp [List.getD_eq_getElem?_getD, hl, show k < 35 by omega]
  omega
theorem lackTo_hi (l : List Nat) (k : Nat) (h : ¬ k < 32) : lackTo l (k + 1) = lackTo l k := by
  unfold lackTo
  rw [Nat.min_eq_right (by omega), Nat.min_eq_right (by omega)]
theorem take_sum_le : ∀ (l : List Nat) (m : Nat), (∀ j, l.getD j 0 ≤ 15) → (l.take m).sum ≤ 15 * m
  | [], m, _ => by simp
  | x :: r, 0, _ => by simp
  | x :: r, m + 1, h => by
    have h0 := h 0
    have := take_sum_le r m (fun j => by simpa using h (j + 1))
    simp at h0 ⊢
    omega
theorem lackTo_le (l : List Nat) (k : Nat) (h : ∀ j, l.getD j 0 ≤ 15) : lackTo l k ≤ 5000 := by
  unfold lackTo
  have h1 := take_sum_le l (min k 32) h
  have := h 32
  have := h 33
  have := h 34
  have : 15 * min k 32 ≤ 15 * 32 := Nat.mul_le_mul_left _ (Nat.min_le_right _ _)
  omega
/-- Whether one of the first k digits is below. -/
def belowTo (a b : List Nat) (k : Nat) : Bool := (List.range k).any fun j => decide (b.getD j 0 < a.getD j 0)
theorem belowTo_succ (a b : List Nat) (k : Nat) : belowTo a b (k + 1) = (belowTo a b k || decide (b.getD k 0 < a.getD k 0)) := by
  unfold belowTo; rw [List.range_succ, List.any_append]; simp
theorem belowTo_no (a b : List Nat) (k : Nat) (h : belowTo a b k = false) : ∀ j, j < k → a.getD j 0 ≤ b.getD j 0 := by
  intro j hj
  unfold belowTo at h
  rw [List.any_eq_false] at h
  have := h j (by simpa using hj)
  simpa using this
end Go.Proofs.Ytljnadbfadgglaa
