/- Public, Sign, Recover, of the program and of the reference, whatever the leaf and the signature: one answer each. Condition: seed and text take at most 4,096 bytes. -/
import Derived.Test.YtljnadbfadgglaaRefR
namespace Go.Proofs.Ytljnadbfadgglaa
open Go.RowKit
set_option maxRecDepth 100000
set_option linter.unusedVariables false

def errL (n : Int) : Int := if 0 ≤ n ∧ n ≤ 255 then 0 else 1
def pubU (seed : ByteArray) (n : Int) : ByteArray := if 0 ≤ n ∧ n ≤ 255 then pubK seed n.toNat else ⟨#[]⟩
def sigU (seed : ByteArray) (n : Int) (text : ByteArray) : ByteArray := if 0 ≤ n ∧ n ≤ 255 then sigK seed n.toNat text else ⟨#[]⟩
def recU (text sig : ByteArray) : ByteArray := if sig.size = 560 then recK text sig else ⟨#[]⟩

theorem below_same {B : Nat} {w w' : World} (h : w = w') : Below B w w' := by subst h; exact Below.refl _ _

theorem public_u (seed : ByteArray) (hs : seed.size ≤ 4096) (n : Int) (w : World) :
    Calls Try.prog 43 #[.string seed, .int .i64 n] w fun e w' => e = .returned (.tuple #[.string (pubU seed n), .int .i64 (errL n)]) ∧ Below w.heap.size w w' := by
  by_cases h : 0 ≤ n ∧ n ≤ 255
  · obtain ⟨k, rfl⟩ := Int.eq_ofNat_of_zero_le h.1
    unfold pubU errL
    rw [if_pos h, if_pos h]
    exact public_yes seed hs k (by omega) w
  · unfold pubU errL
    rw [if_neg h, if_neg h]
    exact (public_no seed n (by omega) w).mono fun _ _ ⟨he, hw⟩ => ⟨he, below_same hw⟩
theorem refpublic_u (seed : ByteArray) (hs : seed.size ≤ 4096) (n : Int) (w : World) :
    Calls Try.prog 48 #[.string seed, .int .i64 n] w fun e w' => e = .returned (.tuple #[.string (pubU seed n), .int .i64 (errL n)]) ∧ Below w.heap.size w w' := by
  by_cases h : 0 ≤ n ∧ n ≤ 255
  · obtain ⟨k, rfl⟩ := Int.eq_ofNat_of_zero_le h.1
    unfold pubU errL
    rw [if_pos h, if_pos h]
    exact refpublic_yes seed hs k (by omega) w
  · unfold pubU errL
    rw [if_neg h, if_neg h]
    exact (refpublic_no seed n (by omega) w).mono fun _ _ ⟨he, hw⟩ => ⟨he, below_same hw⟩
theorem sign_u (seed : ByteArray) (hs : seed.size ≤ 4096) (n : Int) (text : ByteArray) (ht : text.size ≤ 4096) (w : World) :
    Calls Try.prog 49 #[.string seed, .int .i64 n, .string text] w fun e w' => e = .returned (.tuple #[.string (sigU seed n text), .int .i64 (errL n)]) ∧ Below w.heap.size w w' := by
  by_cases h : 0 ≤ n ∧ n ≤ 255
  · obtain ⟨k, rfl⟩ := Int.eq_ofNat_of_zero_le h.1
    unfold sigU errL
    rw [if_pos h, if_pos h]
    exact sign_yes seed hs k (by omega) text ht w
  · unfold sigU errL
    rw [if_neg h, if_neg h]
    exact (sign_no seed n (by omega) text w).mono fun _ _ ⟨he, hw⟩ => ⟨he, below_same hw⟩
theorem refsign_u (seed : ByteArray) (hs : seed.size ≤ 4096) (n : Int) (text : ByteArray) (ht : text.size ≤ 4096) (w : World) :
    Calls Try.prog 50 #[.string seed, .int .i64 n, .string text] w fun e w' => e = .returned (.tuple #[.string (sigU seed n text), .int .i64 (errL n)]) ∧ Below w.heap.size w w' := by
  by_cases h : 0 ≤ n ∧ n ≤ 255
  · obtain ⟨k, rfl⟩ := Int.eq_ofNat_of_zero_le h.1
    unfold sigU errL
    rw [if_pos h, if_pos h]
    exact refsign_yes seed hs k (by omega) text ht w
  · unfold sigU errL
    rw [if_neg h, if_neg h]
    exact (refsign_no seed n (by omega) text w).mono fun _ _ ⟨he, hw⟩ => ⟨he, below_same hw⟩
theorem recover_u (text : ByteArray) (ht : text.size ≤ 4096) (sig : ByteArray) (w : World) :
    Calls Try.prog 51 #[.string text, .string sig] w fun e w' => e = .returned (.tuple #[.string (recU text sig), .bool (decide (sig.size = 560))]) ∧ Below w.heap.size w w' := by
  by_cases h : sig.size = 560
  · unfold recU
    rw [if_pos h, decide_eq_true h]
    exact recover_yes text ht sig h w
  · unfold recU
    rw [if_neg h, decide_eq_false h]
    exact (recover_no text sig h w).mono fun _ _ ⟨he, hw⟩ => ⟨he, below_same hw⟩
theorem refrecover_u (text : ByteArray) (ht : text.size ≤ 4096) (sig : ByteArray) (w : World) :
    Calls Try.prog 53 #[.string text, .string sig] w fun e w' => e = .returned (.tuple #[.string (recU text sig), .bool (decide (sig.size = 560))]) ∧ Below w.heap.size w w' := by
  by_cases h : sig.size = 560
  · unfold recU
    rw [if_pos h, decide_eq_true h]
    exact refrecover_yes text ht sig h w
  · unfold recU
    rw [if_neg h, decide_eq_false h]
    exact (refrecover_no text sig h w).mono fun _ _ ⟨he, hw⟩ => ⟨he, below_same hw⟩

/-- A signature of its own text leads to the public key. -/
theorem rec_sign (seed : ByteArray) (leaf : Nat) (text : ByteArray) : recK text (sigK seed leaf text) = pubK seed leaf ∧ (sigK seed leaf text).size = 560 := by
  have hsz : (sigK seed leaf text).size = 560 := by unfold sigK; rw [bs_size, keyB_length]
  refine ⟨?_, hsz⟩
  have hpart : ∀ (f : Nat → Nat) (n k : Nat), k < n → (bs (keyB seed leaf f n)).extract (16 * k) (16 * (k + 1)) = stepN (beg seed leaf k) (f k) := by
    intro f n k
    induction n with
    | zero => intro h; omega
    | succ n ih =>
      intro h
      have e := bs_extract (keyB seed leaf f (n + 1)) (16 * k) (16 * (k + 1))
      rw [keyB_succ] at e ⊢
      have hl := keyB_length seed leaf f n
      have hx := step_size (beg seed leaf n) (beg_size seed leaf n) (f n)
      by_cases hk : k = n
      · subst hk
        rw [e, List.drop_append_of_le_length (by omega), List.drop_of_length_le (by omega), List.nil_append, List.take_of_length_le (by rw [data_length, hx]; omega), bs_of]
      · have e2 := bs_extract (keyB seed leaf f n) (16 * k) (16 * (k + 1))
        rw [ih (by omega)] at e2
        rw [e, e2, List.drop_append_of_le_length (by omega), List.take_append_of_le_length (by rw [List.length_drop]; omega)]
  have hrec : ∀ k, k ≤ 35 → recB (dg text) (sigK seed leaf text) k = keyB seed leaf (fun _ => 15) k := by
    intro k
    induction k with
    | zero => intro _; simp [recB, keyB]
    | succ k ih =>
      intro hk
      rw [recB_succ, keyB_succ, ih (by omega)]
      have hp : (sigK seed leaf text).extract (16 * k) (16 * (k + 1)) = stepN (beg seed leaf k) ((dg text).getD k 0) := hpart _ 35 k (by omega)
      have hle := dg_le text k
      rw [hp, stepN_add, show (dg text).getD k 0 + (15 - (dg text).getD k 0) = 15 by omega]
  unfold recK pubK
  rw [hrec 35 (Nat.le_refl _)]
theorem pubK_size (seed : ByteArray) (leaf : Nat) : (pubK seed leaf).size = 32 := dig_size _
end Go.Proofs.Ytljnadbfadgglaa
