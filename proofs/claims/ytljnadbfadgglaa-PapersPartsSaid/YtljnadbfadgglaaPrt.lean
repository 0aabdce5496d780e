/- What a walk's parts are (plain); parts of texts. No condition. -/
import Derived.Test.YtljnadbfadgglaaS4
namespace Go.Proofs.Ytljnadbfadgglaa
open Go.RowKit
set_option maxRecDepth 100000
set_option linter.unusedVariables false
set_option linter.unusedSimpArgs false

theorem checked_right {e : Int} {l : List St} {x : ByteArray} {q : Int × List St} (h : checkV e l x = .ok q) : rightB q.1 q.2 = true := by
  unfold checkV at h
  split at h
  · cases h
  · split at h
    · cases h
    · rename_i p hp
      split at h
      · cases h
      · split at h
        · cases h
        · split at h
          · cases h
          · injection h with h
            subst h
            obtain ⟨_, hr⟩ := open_text hp
            unfold readV at hr
            split at hr
            · cases hr
            · split at hr
              · rename_i hb
                injection hr with hr
                have h1 := congrArg Prod.fst hr
                have h2 := congrArg Prod.snd hr
                simp only at h1 h2
                rw [← h1, ← h2]
                exact hb
              · cases hr
theorem walk_shift : ∀ (ys : List ByteArray) (e : Int) (l : List St) (i j : Nat), walkV e l ys (i + j) = ((walkV e l ys j).1, i + (walkV e l ys j).2.1, (walkV e l ys j).2.2)
  | [], e, l, i, j => rfl
  | y :: ys, e, l, i, j => by
    unfold walkV
    cases h : checkV e l y with
    | error er => rfl
    | ok q => exact walk_shift ys q.1 q.2 i (j + 1)
theorem walk_split : ∀ (xs ys : List ByteArray) (e : Int) (l : List St) (i : Nat), rightB e l = true →
    ((walkV e l xs i).2.2 ≠ 0 ∧ walkV e l (xs ++ ys) i = walkV e l xs i ∧ (walkV e l xs i).2.1 < i + xs.length) ∨
    ((walkV e l xs i).2.2 = 0 ∧ (walkV e l xs i).2.1 = i + xs.length ∧ walkV e l (xs ++ ys) i = walkV (walkV e l xs i).1.1 (walkV e l xs i).1.2 ys (i + xs.length) ∧ rightB (walkV e l xs i).1.1 (walkV e l xs i).1.2 = true)
  | [], ys, e, l, i, hr => .inr ⟨rfl, rfl, rfl, hr⟩
  | x :: xs, ys, e, l, i, hr => by
    rw [List.cons_append]
    cases h : checkV e l x with
    | error er =>
      have e1 : ∀ zs, walkV e l (x :: zs) i = ((e, l), i, er) := fun zs => by rw [walkV, h]
      rw [e1, e1]
      exact .inl ⟨check_err h, rfl, by simp⟩
    | ok q =>
      have e1 : ∀ zs, walkV e l (x :: zs) i = walkV q.1 q.2 zs (i + 1) := fun zs => by rw [walkV, h]
      rw [e1, e1]
      have := walk_split xs ys q.1 q.2 (i + 1) (checked_right h)
      rw [show i + 1 + xs.length = i + (x :: xs).length by simp; omega] at this
      exact this
theorem walk_parts (e : Int) (l : List St) (xs : List ByteArray) (k : Nat) (hk : k ≤ xs.length) :
    ((walkF e l (xs.take k)).2.2 ≠ 0 ∧ walkF e l xs = walkF e l (xs.take k) ∧ ((walkF e l (xs.take k)).2.1 < k ∨ (walkF e l (xs.take k)).2.1 = 0)) ∨
    ((walkF e l (xs.take k)).2.2 = 0 ∧ (walkF e l (xs.take k)).2.1 = k ∧
      walkF e l xs = ((walkF (walkF e l (xs.take k)).1.1 (walkF e l (xs.take k)).1.2 (xs.drop k)).1, k + (walkF (walkF e l (xs.take k)).1.1 (walkF e l (xs.take k)).1.2 (xs.drop k)).2.1, (walkF (walkF e l (xs.take k)).1.1 (walkF e l (xs.take k)).1.2 (xs.drop k)).2.2)) := by
  cases hr : rightB e l with
  | false =>
    have h0 : ∀ zs, walkF e l zs = ((0, []), 0, 4) := fun zs => by unfold walkF; rw [hr]; rfl
    rw [h0, h0]
    exact .inl ⟨by decide, rfl, .inr rfl⟩
  | true =>
    have h1 : ∀ zs, walkF e l zs = walkV e l zs 0 := fun zs => by unfold walkF; rw [hr]; rfl
    have hl : (xs.take k).length = k := by rw [List.length_take]; omega
    rcases walk_split (xs.take k) (xs.drop k) e l 0 hr with ⟨a, b, c⟩ | ⟨a, b, c, d⟩
    · rw [List.take_append_drop, hl, Nat.zero_add] at *
      rw [h1, h1]
      exact .inl ⟨a, b, .inl c⟩
    · rw [List.take_append_drop, hl, Nat.zero_add] at *
      rw [h1, h1]
      refine .inr ⟨a, b, ?_⟩
      have h2 : ∀ zs, walkF (walkV e l (xs.take k) 0).1.1 (walkV e l (xs.take k) 0).1.2 zs = walkV (walkV e l (xs.take k) 0).1.1 (walkV e l (xs.take k) 0).1.2 zs 0 := fun zs => by unfold walkF; rw [d]; rfl
      rw [h2, c]
      exact walk_shift _ _ _ k 0

theorem walkV_le : ∀ (xs : List ByteArray) (e : Int) (l : List St) (i : Nat), (walkV e l xs i).2.1 ≤ i + xs.length
  | [], e, l, i => Nat.le_refl _
  | x :: xs, e, l, i => by
    unfold walkV
    cases h : checkV e l x with
    | error er => simp
    | ok q =>
      have := walkV_le xs q.1 q.2 (i + 1)
      simp only [List.length_cons]
      show (walkV q.1 q.2 xs (i + 1)).2.1 ≤ _
      omega
theorem walkF_le (e : Int) (l : List St) (xs : List ByteArray) : (walkF e l xs).2.1 ≤ xs.length := by
  unfold walkF
  split
  · simpa using walkV_le xs e l 0
  · exact Nat.zero_le _

theorem Texts.front {w : World} {A : Option Addr} {n c : Nat} {xs : List ByteArray} (h : Texts w A n c xs) (k : Nat) (hk : k ≤ n) : Texts w A k c (xs.take k) := by
  obtain ⟨h1, h2, h3, h4⟩ := h
  refine ⟨by rw [List.length_take]; omega, by omega, fun hA => by obtain ⟨a, b⟩ := h3 hA; exact ⟨by omega, b⟩, fun ad had => ?_⟩
  obtain ⟨b, off, k1, k2⟩ := h4 ad had
  refine ⟨b, off, fun h0 => k1 (by omega), fun i hi => ?_⟩
  rw [k2 i (by omega), List.getD_eq_getElem?_getD, List.getD_eq_getElem?_getD, List.getElem?_take, if_pos hi]
theorem Texts.rest {w : World} {A A' : Option Addr} {n c : Nat} {xs : List ByteArray} (h : Texts w A n c xs) (k : Nat) (hk : k ≤ n) (hA : A' = if c = k then A else A.map (·.add k)) : Texts w A' (n - k) (c - k) (xs.drop k) := by
  obtain ⟨h1, h2, h3, h4⟩ := h
  subst hA
  refine ⟨by rw [List.length_drop, h1], by omega, fun hA => ?_, fun ad had => ?_⟩
  · split at hA
    · omega
    · cases A with
      | none => have := h3 rfl; omega
      | some ad => cases hA
  · split at had
    · exact ⟨0, 0, fun h0 => by omega, fun i hi => by omega⟩
    · cases A with
      | none => cases had
      | some ad0 =>
        obtain ⟨b, off, k1, k2⟩ := h4 ad0 rfl
        refine ⟨b, off + k, fun h0 => ?_, fun i hi => ?_⟩
        · obtain ⟨e1, e2⟩ := k1 (by omega)
          subst e1
          injection had with had
          exact ⟨by rw [← had]; exact addr_plain b off k, e2⟩
        · rw [Nat.add_assoc, k2 (k + i) (by omega), List.getD_eq_getElem?_getD, List.getD_eq_getElem?_getD, List.getElem?_drop]
end Go.Proofs.Ytljnadbfadgglaa
