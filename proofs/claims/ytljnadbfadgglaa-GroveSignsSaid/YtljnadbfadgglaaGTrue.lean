/- Plain: a grove's signature leads to its root. No condition. -/
import Derived.Test.YtljnadbfadgglaaGSig
import Derived.Test.YtljnadbfadgglaaVer
namespace Go.Proofs.Ytljnadbfadgglaa
open Go.RowKit
set_option maxRecDepth 100000
set_option linter.unusedVariables false
set_option linter.unusedSimpArgs false

theorem data_app (a b : ByteArray) : (a ++ b).data.toList = a.data.toList ++ b.data.toList := by simp [ByteArray.data_append]
theorem sgn_len (seed : ByteArray) (leaf : Nat) (text : ByteArray) (k : Nat) : (sgn seed leaf text k).data.toList.length = 561 + 32 * k := by rw [data_length, sgn_size]
theorem bes_sgn (seed : ByteArray) (leaf : Nat) (text : ByteArray) : ∀ h k, k < h → besN (sgn seed leaf text h).data.toList k = nodeK seed k (sib (leaf / 2 ^ k))
  | 0, k, hk => by omega
  | h + 1, k, hk => by
    have e : (sgn seed leaf text (h + 1)).data.toList = (sgn seed leaf text h).data.toList ++ (nodeK seed h (sib (leaf / 2 ^ h))).data.toList := data_app _ _
    have hl := sgn_len seed leaf text h
    by_cases hkh : k < h
    · rw [← bes_sgn seed leaf text h k hkh]
      unfold besN
      rw [e, List.drop_append_of_le_length (by omega), List.take_append_of_le_length (by rw [List.length_drop]; omega)]
    · obtain rfl : k = h := by omega
      unfold besN
      rw [e, ← hl, List.drop_left, List.take_of_length_le (by rw [data_length, nodeK_size]; omega), bs_of]
theorem head_sgn (seed : ByteArray) (leaf : Nat) (text : ByteArray) : ∀ h, ∃ r, (sgn seed leaf text h).data.toList = UInt8.ofNat leaf :: ((sigK seed leaf text).data.toList ++ r)
  | 0 => ⟨[], by show (one leaf ++ sigK seed leaf text).data.toList = _; rw [data_app]; simp [one]⟩
  | h + 1 => by
    obtain ⟨r, hr⟩ := head_sgn seed leaf text h
    refine ⟨r ++ (nodeK seed h (sib (leaf / 2 ^ h))).data.toList, ?_⟩
    show (sgn seed leaf text h ++ nodeK seed h _).data.toList = _
    rw [data_app, hr]
    simp
theorem leaf_sgn (seed : ByteArray) (leaf : Nat) (text : ByteArray) (h : Nat) (hl : leaf < 256) : leafN (sgn seed leaf text h).data.toList = leaf := by
  obtain ⟨r, hr⟩ := head_sgn seed leaf text h
  unfold leafN
  rw [hr]
  show (UInt8.ofNat leaf).toNat = leaf
  simp
  omega
theorem one_sgn (seed : ByteArray) (leaf : Nat) (text : ByteArray) (h : Nat) : bs (((sgn seed leaf text h).data.toList.drop 1).take 560) = sigK seed leaf text := by
  obtain ⟨r, hr⟩ := head_sgn seed leaf text h
  have hs : (sigK seed leaf text).data.toList.length = 560 := by rw [data_length, sigK_size]
  rw [hr, List.drop_succ_cons, List.drop_zero, List.take_append_of_le_length (by omega), List.take_of_length_le (by omega), bs_of]

theorem vn_sgn (seed : ByteArray) (leaf : Nat) (text : ByteArray) (h : Nat) (hl : leaf < 256) : ∀ k, k ≤ h → vn text (sgn seed leaf text h).data.toList k = nodeK seed k (leaf / 2 ^ k)
  | 0, _ => by
    show recK text (bs (((sgn seed leaf text h).data.toList.drop 1).take 560)) = pubK seed (leaf / 2 ^ 0)
    rw [one_sgn, (rec_sign seed leaf text).1, Nat.pow_zero, Nat.div_one]
  | k + 1, hk => by
    have ih := vn_sgn seed leaf text h hl k (by omega)
    have hb := bes_sgn seed leaf text h k (by omega)
    show (if leafN _ / 2 ^ k % 2 = 1 then _ else _) = dig (nodeK seed k (2 * (leaf / 2 ^ (k + 1))) ++ nodeK seed k (2 * (leaf / 2 ^ (k + 1)) + 1))
    rw [ih, hb, leaf_sgn seed leaf text h hl, Nat.pow_succ, ← Nat.div_div_eq_div_mul]
    generalize leaf / 2 ^ k = a
    unfold sib
    by_cases ho : a % 2 = 1
    · rw [if_pos ho, if_pos ho, show 2 * (a / 2) = a - 1 by omega, show a - 1 + 1 = a by omega]
    · rw [if_neg ho, if_neg ho, show 2 * (a / 2) = a by omega]

/-- A signature is taken under the root. -/
theorem ver_sgn (seed : ByteArray) (leaf : Nat) (text : ByteArray) (h : Nat) (hh : h ≤ 5) (hl : leaf < 2 ^ h) : verB (nodeK seed h 0) (h : Int) text (sgn seed leaf text h) = true := by
  have hp := (pow_int h hh).1
  unfold verB
  rw [(highB_iff _).2 ⟨by omega, by omega⟩, Int.toNat_natCast, sgn_size, leaf_sgn seed leaf text h (by omega), vn_sgn seed leaf text h (by omega) h (Nat.le_refl _), Nat.div_eq_of_lt hl]
  simp [hl]
/-- Another length is not. -/
theorem ver_len (root : ByteArray) (n : Int) (t sig : ByteArray) (h : sig.size ≠ 561 + 32 * n.toNat) : verB root n t sig = false := by
  unfold verB
  rw [decide_eq_false h]
  simp
end Go.Proofs.Ytljnadbfadgglaa
