/- witanref03: turn, Pad, Constants. -/
import Derived.Test.YtljnadbfadgglaaRot
import Derived.Test.YtljnadbfadgglaaPad
namespace Go.Proofs.Ytljnadbfadgglaa
open Go.RowKit
set_option maxRecDepth 100000

set_option maxHeartbeats 400000 in
theorem turn_any (x : BitVec 32) (n : Nat) (h1 : 1 ≤ n) (h2 : n ≤ 31) (w : World) :
    Calls Try.prog 94 #[.int .u32 (u x), .int .i64 (n : Int)] w fun e w' => e = .returned (.int .u32 (u (Sha.rotr x n))) ∧ w' = w := by
  have e1 := u_shr x n
  have e2 := u_shl x (32 - n)
  have e3 := u_or (x >>> n) (x <<< (32 - n))
  go_enter Try.func94, Try.ntmps94
  go_wp2
  go_ret
  exact ⟨rfl, rfl⟩
theorem turn_q (x : BitVec 32) (k : Int) (h : 1 ≤ k ∧ k ≤ 31) (w : World) :
    Calls Try.prog 94 #[.int .u32 (u x), .int .i64 k] w fun e w' => e = .returned (.int .u32 (u (Sha.rotr x k.toNat))) ∧ w' = w := by
  obtain ⟨n, rfl⟩ := Int.eq_ofNat_of_zero_le (show 0 ≤ k by omega)
  exact turn_any x n (by omega) (by omega) w

/-- The padding as far as k noughts. -/
def padZ (k : Nat) : List UInt8 := 128 :: List.replicate k 0
theorem padZ_succ (k : Nat) : Lib.byteCells (padZ (k + 1)) = Lib.byteCells (padZ k) ++ [Value.int .u8 0] := by
  simp [padZ, Lib.byteCells, List.replicate_succ']

theorem padZ_pad (n : Nat) : Lib.byteCells (padZ (63 - (n + 8) % 64)) = Lib.byteCells (padTo n 0) := by simp [padZ, padTo]
theorem pad_length (n : Nat) : (Sha.pad n).length = 64 - (n + 8) % 64 + 8 := by simp [Sha.pad, Sha.lenBytes]; omega

set_option maxHeartbeats 400000 in
theorem refpad_any (n : Nat) (h : n ≤ 4294967296) (w : World) :
    Calls Try.prog 92 #[.int .i64 n] w fun e w' => ∃ v, e = .returned v ∧ w'.ownsRow w.heap.size 5 1 v (Sha.pad n).length (Lib.byteCells (Sha.pad n)) ∧ Below w.heap.size w w' := by
  have H1 : (n : Int) ≤ 4294967296 := by omega
  have H2 : 0 ≤ (n : Int) := by omega
  clear h
  go_enter Try.func92, Try.ntmps92
  go_wp2
  go_loopw [3] (fun v wr => ∃ k : Nat, k ≤ 63 - (n + 8) % 64 ∧ wr.ownsRow w.heap.size 5 1 v (k + 1) (Lib.byteCells (padZ k)) ∧ Below w.heap.size w wr) (fun v _ => match v with | .slice _ l _ => 64 - l | _ => 0)
  case atStart =>
    refine ⟨0, by omega, ?_, (Below.refl _ _).alloc (Nat.le_refl _) _⟩
    exact own_block w #[.int .u8 128] 5 1 1 w.heap.size (Nat.le_refl _) rfl (by omega) (by decide)
  case round =>
    obtain ⟨k, hk, hown, hbel⟩ := hrel
    have hz := hbel.size
    obtain ⟨A, c, rfl⟩ := own_shape hown
    by_cases hlt : k < 63 - (n + 8) % 64
    · have ht : (((n : Int) + ((k : Int) + 1) + 8) % 64 != 0) = true := by rw [bne_iff_ne]; omega
      go_wp2_with (at_builtin; go_must (refine app_lit rfl (.tmp 13) (.tmp 14) 84 5 rfl info_byte Try.underlying84 rfl w wr w.heap.size w.heap.size (Nat.le_refl _) hz hbel _ _ _ (by rfl) hown _ 1 1 (by rfl) (by rfl) (by intro u hu; simp at hu; subst hu; rfl) (by omega) (by unfold maxLen; omega) ?_); go_must (intro v1 w1 hown1 hbel1 _ _); clear hown hbel hz)
      have hown2 : w1.ownsRow w.heap.size 5 1 v1 (k + 1 + 1) (Lib.byteCells (padZ (k + 1))) := by
        rw [padZ_succ]; exact hown1
      clear hown1
      go_roundw
      case rel => exact ⟨k + 1, by omega, hown2, hbel1⟩
      case measure =>
        obtain ⟨A1, c1, rfl⟩ := own_shape hown2
        simp; omega
    · obtain rfl : k = 63 - (n + 8) % 64 := by omega
      have ht : (((n : Int) + (((63 - (n + 8) % 64 : Nat) : Int) + 1) + 8) % 64 != 0) = false := by
        rw [bne_eq_false_iff_eq]; omega
      have hown2 : wr.ownsRow w.heap.size 5 1 (.slice A (63 - (n + 8) % 64 + 1) c) (64 - (n + 8) % 64 + 0) (Lib.byteCells (padTo n 0)) := by
        rw [← padZ_pad, show 64 - (n + 8) % 64 + 0 = 63 - (n + 8) % 64 + 1 by omega]; exact hown
      generalize hm : 63 - (n + 8) % 64 = m at *
      have hm63 : m ≤ 63 := by omega
      have HO := Lib.hid hown2
      have HM := Lib.hid hm
      clear hown hown2 hlt hk hm
      go_wp2
      go_loopw [3, 4] (fun v i wr => ∃ k : Nat, k ≤ 8 ∧ i = .int .i64 (7 - (k : Int)) ∧ wr.ownsRow w.heap.size 5 1 v (64 - (n + 8) % 64 + k) (Lib.byteCells (padTo n k)) ∧ Below w.heap.size w wr) (fun _ i _ => (intOf i + 1).toNat)
      case atStart => exact ⟨0, by omega, rfl, HO.out, hbel⟩
      case round =>
        obtain ⟨k, hk, rfl, hown, hbel⟩ := hrel
        have hz := hbel.size
        by_cases hlt : k < 8
        · have esh : IntKind.u64.wrap (8 * (7 - (k : Int))) = ((56 - 8 * k : Nat) : Int) := by
            rw [IntKind.wrap_u64]; omega
          go_wp2_with (at_builtin; go_must (refine app_lit rfl (.tmp 20) (.tmp 28) 84 5 rfl info_byte Try.underlying84 rfl w wr w.heap.size w.heap.size (Nat.le_refl _) hz hbel _ _ _ (by rfl) hown _ 1 1 (by rfl) (by rfl) (by intro u hu; simp at hu; subst hu; rfl) (by omega) (by unfold maxLen; omega) ?_); go_must (intro v1 w1 hown1 hbel1 _ _); clear hown hbel hz)
          have hown2 : w1.ownsRow w.heap.size 5 1 v1 (64 - (n + 8) % 64 + (k + 1)) (Lib.byteCells (padTo n (k + 1))) := by
            rw [padTo_succ n k hlt, Int.mul_comm]; exact hown1
          clear hown1
          refine ⟨⟨k + 1, by omega, by go_num, hown2, hbel1⟩, by simp [intOf]; omega⟩
        · obtain rfl : k = 8 := by omega
          go_wp2
          go_ret
          exact ⟨_, rfl, by rw [pad_length, ← padTo_all]; exact hown, hbel⟩
end Go.Proofs.Ytljnadbfadgglaa
