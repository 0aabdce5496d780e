/- onetime.Digits and its reference: the digits of a text. -/
import Derived.Test.YtljnadbfadgglaaLawK
import Derived.Test.YtljnadbfadgglaaRefSum
import Derived.BigQuiet
namespace Go.Proofs.Ytljnadbfadgglaa
open Go.RowKit
set_option maxRecDepth 100000
set_option linter.unusedVariables false

/-- The digits of the first k bytes, and what they make together. -/
def nibs (l : List UInt8) (k : Nat) : List Nat := (l.take k).flatMap fun b => [b.toNat / 16, b.toNat % 16]
def nibSum (l : List UInt8) (k : Nat) : Nat := ((l.take k).map fun b => b.toNat / 16 + b.toNat % 16).sum
def digs (l : List UInt8) : List Nat := nibs l 16 ++ [(480 - nibSum l 16) / 256, (480 - nibSum l 16) / 16 % 16, (480 - nibSum l 16) % 16]
def intCells (l : List Nat) : List Value := l.map fun (n : Nat) => Value.int .i64 (n : Int)
theorem take_snoc (l : List UInt8) (k : Nat) (h : k < l.length) : l.take (k + 1) = l.take k ++ [l.getD k 0] := by
  rw [List.take_succ_eq_append_getElem h]
  simp [List.getD_eq_getElem?_getD, h]
theorem nibs_succ (l : List UInt8) (k : Nat) (h : k < l.length) : nibs l (k + 1) = nibs l k ++ [(l.getD k 0).toNat / 16, (l.getD k 0).toNat % 16] := by
  unfold nibs; rw [take_snoc l k h, List.flatMap_append]; simp
theorem nibSum_succ (l : List UInt8) (k : Nat) (h : k < l.length) : nibSum l (k + 1) = nibSum l k + ((l.getD k 0).toNat / 16 + (l.getD k 0).toNat % 16) := by
  unfold nibSum; rw [take_snoc l k h, List.map_append, List.sum_append]; simp
theorem nibSum_le (l : List UInt8) : ∀ k, nibSum l k ≤ 30 * k
  | 0 => by simp [nibSum]
  | k + 1 => by
    have ih := nibSum_le l k
    rcases Nat.lt_or_ge k l.length with h | h
    · rw [nibSum_succ l k h]
      have := (l.getD k 0).toNat_lt
      omega
    · have : nibSum l (k + 1) = nibSum l k := by unfold nibSum; rw [List.take_of_length_le (by omega), List.take_of_length_le h]
      omega
theorem nibs_length (l : List UInt8) (k : Nat) : (nibs l k).length = 2 * min k l.length := by
  unfold nibs
  rw [List.length_flatMap]
  have : ∀ m : List UInt8, (m.map fun (b : UInt8) => [b.toNat / 16, b.toNat % 16].length).sum = 2 * m.length := by
    intro m; induction m with
    | nil => rfl
    | cons x r ih => rw [List.map_cons, List.sum_cons, ih, List.length_cons]; simp; omega
  rw [this, List.length_take]
theorem intCells_append (a b : List Nat) : intCells (a ++ b) = intCells a ++ intCells b := by simp [intCells]
theorem info_int : (Try.prog.info? 3).map (fun i => (i.zero, i.size, i.bytes)) = some (some (.int .i64 0), 1, 8) := by kernel_rfl

theorem own_lower {w : World} {B base n : Nat} {e : TypeId} {v : Value} {xs : List Value} (h : w.ownsRow base e 1 v n xs) (hB : B ≤ base) : w.ownsRow B e 1 v n xs := by
  refine ⟨h.1, ?_⟩
  rcases h.2 with h' | ⟨g, cap, cur, h1, h2, h3⟩
  · exact .inl h'
  · exact .inr ⟨g, cap, cur, h1, Nat.le_trans hB h2, h3⟩
set_option maxHeartbeats 400000 in
theorem refdigits_any (s : ByteArray) (hs : s.size ≤ 4096) (w : World) :
    Calls Try.prog 83 #[.string s] w fun e w' => ∃ v, e = .returned v ∧ w'.ownsRow w.heap.size 3 1 v 35 (intCells (digs (dig s).data.toList)) ∧ Below w.heap.size w w' := by
  have HR := Lib.hid (refsum_any s (by omega) w)
  have hd := dig_size s
  clear hs
  go_enter Try.func83, Try.ntmps83
  go_wp2_with fail
  refine HR.out.mono ?_
  rintro e w1 ⟨rfl, hb1⟩
  generalize hDd : dig s = d at hd ⊢
  have HDd := Lib.hid hDd
  clear hDd
  have Hlen : Hid (d.data.toList.length = 32) := Lib.hid (by rw [Array.length_toList]; exact hd)
  have Hz1 := Lib.hid hb1.size
  have HB1 := Lib.hid hb1
  clear hb1 HR
  go_wp2_with fail
  go_loopw [4, 5, 6] (fun v lk i wr => ∃ k : Nat, k ≤ 16 ∧ i = .int .i64 k ∧ lk = .int .i64 ((30 * k - nibSum d.data.toList k : Nat) : Int) ∧ wr.ownsRow w1.heap.size 3 1 v (2 * k) (intCells (nibs d.data.toList k)) ∧ Below w1.heap.size w1 wr) (fun _ _ i _ => 16 - (intOf i).toNat)
  case atStart => exact ⟨0, by omega, rfl, rfl, World.ownsRow_nil _ _ _ _, Below.refl _ _⟩
  case round =>
    obtain ⟨k, hk, rfl, rfl, hown, hbel⟩ := hrel
    have hz := hbel.size
    have hle := nibSum_le d.data.toList k
    by_cases hlt : k < 16
    · have hle' := nibSum_le d.data.toList (k + 1)
      have e1 := nibs_succ d.data.toList k (by rw [Hlen.out]; omega)
      have e2 := nibSum_succ d.data.toList k (by rw [Hlen.out]; omega)
      have n1 : 0 ≤ (k : Int) := by omega
      have n2 : (k : Int) < 32 := by omega
      have n3 : (k : Int) < (d.size : Int) := by rw [hd]; omega
      go_wp2_with fail
      go_quiet (fail)
      have hkd : k < d.size := by omega
      have hx : d[k] = d.data.toList.getD k 0 := by
        rw [List.getD_eq_getElem?_getD, List.getElem?_eq_getElem (by rw [Hlen.out]; omega)]
        rfl
      have hb := (d.data.toList.getD k 0).toNat_lt
      rw [hx]
      generalize (d.data.toList.getD k 0).toNat = b at *
      have q0 : wrap64 (b : Int) = (b : Int) := by unfold wrap64; omega
      have q1 : wrap64 ((wrap64 (b : Int)).tdiv 16) = ((b / 16 : Nat) : Int) := by rw [q0, Int.tdiv_eq_ediv_of_nonneg (by omega)]; unfold wrap64; omega
      have q2 : (wrap64 (b : Int)).tmod 16 = ((b % 16 : Nat) : Int) := by rw [q0, Int.tmod_eq_emod_of_nonneg (by omega)]; omega
      rw [q1, q2, q0]
      have hown' : (wr.drewN nq).ownsRow w1.heap.size 3 1 u4 (2 * k) (intCells (nibs d.data.toList k)) := hown
      have hbel' : Below w1.heap.size w1 (wr.drewN nq) := ⟨hbel.os, hbel.tape, hbel.output, hbel.size, hbel.block⟩
      have hz' : w1.heap.size ≤ (wr.drewN nq).heap.size := hz
      clear q0 q1 q2 hx hown hbel hz
      go_wp2_with (at_builtin; go_must (refine app_lit rfl (.tmp 25) (.tmp 28) 115 3 rfl info_int Try.underlying115 rfl w1 (wr.drewN nq) w1.heap.size w1.heap.size (Nat.le_refl _) hz' hbel' _ _ _ (by rfl) hown' _ 2 2 (by rfl) (by rfl) (by intro u hu; simp at hu; rcases hu with rfl | rfl <;> rfl) (by omega) (by unfold maxLen; omega) ?_); go_must (intro v1 w9 hown1 hbel1 _ _); clear hown' hbel' hz')
      have hown2 : w9.ownsRow w1.heap.size 3 1 v1 (2 * (k + 1)) (intCells (nibs d.data.toList (k + 1))) := by
        rw [e1, intCells_append]
        simpa [intCells, Nat.mul_add] using hown1
      clear hown1
      refine ⟨⟨k + 1, by omega, by go_num, ?_, hown2, hbel1⟩, by simp [intOf]; omega⟩
      rw [e2]
      congr 1
      omega
    · obtain rfl : k = 16 := by omega
      have elack : 30 * 16 - nibSum d.data.toList 16 = 480 - nibSum d.data.toList 16 := rfl
      rw [elack]
      have hdg : intCells (digs d.data.toList) = intCells (nibs d.data.toList 16) ++ intCells [(480 - nibSum d.data.toList 16) / 256, (480 - nibSum d.data.toList 16) / 16 % 16, (480 - nibSum d.data.toList 16) % 16] := intCells_append _ _
      have hL31 : 480 - nibSum d.data.toList 16 ≤ 480 := by omega
      generalize 480 - nibSum d.data.toList 16 = L at hdg hL31 ⊢
      have HDG := Lib.hid hdg
      clear hdg elack hle hlt hk
      go_wp2_with (at_builtin; go_must (refine app_lit rfl (.tmp 36) (.tmp 44) 115 3 rfl info_int Try.underlying115 rfl w1 wr w1.heap.size w1.heap.size (Nat.le_refl _) hz hbel _ _ _ (by rfl) hown _ 3 3 (by rfl) (by rfl) (by intro u hu; simp at hu; rcases hu with rfl | rfl | rfl <;> rfl) (by omega) (by unfold maxLen; omega) ?_); go_must (intro v1 w9 hown1 hbel1 _ _); clear hown hbel hz)
      go_ret
      rw [HDd.out, HDG.out]
      exact ⟨_, rfl, own_lower (by simpa [intCells] using hown1) Hz1.out, HB1.out.trans (hbel1.mono Hz1.out)⟩

end Go.Proofs.Ytljnadbfadgglaa
