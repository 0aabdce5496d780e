/- witanref05.Recover. Condition: the text takes at most 4,096 bytes. -/
import Derived.Test.YtljnadbfadgglaaRec
namespace Go.Proofs.Ytljnadbfadgglaa
open Go.RowKit
set_option maxRecDepth 100000
set_option linter.unusedVariables false
set_option linter.unusedSimpArgs false

set_option maxHeartbeats 400000 in
theorem refrecover_yes (text : ByteArray) (ht : text.size ≤ 4096) (sig : ByteArray) (h : sig.size = 560) (w : World) :
    Calls Try.prog 53 #[.string text, .string sig] w fun e w' => e = .returned (.tuple #[.string (recK text sig), .bool true]) ∧ Below w.heap.size w w' := by
  obtain ⟨i0, hi, hz0, hz1, hz2⟩ := info_parts info_byte
  have Hi := Lib.hid hi
  have Hz0 := Lib.hid hz0
  have Hz1 := Lib.hid hz1
  have Hz2 := Lib.hid hz2
  clear hi hz0 hz1 hz2
  have h' : (sig.size : Int) = 560 := by omega
  have HE : Hid (recK text sig = dig (bs (recB (dg text) sig 35))) := Lib.hid rfl
  have HD := fun w : World => Lib.hid (refdigits_c text ht w)
  have HDl := Lib.hid (dg_length text)
  have HDe := Lib.hid (dg_le text)
  generalize dg text = D at HE HD HDl HDe
  have HL := Lib.hid (recB_length D sig h)
  clear ht
  go_enter Try.func53, Try.ntmps53
  go_wp2_with fail
  refine (HD w).out.mono ?_
  rintro e wd ⟨gd, cd, rfl, hcd, hgd, hId, hbd⟩
  have HId := Lib.hid hId
  clear hId
  have hzd := hbd.size
  go_wp2_with fail
  go_loopw [7, 8] (fun v i wr => ∃ k : Nat, k ≤ 35 ∧ i = .int .i64 k ∧ wr.ownsRow wd.heap.size 5 1 v (16 * k) (Lib.byteCells (recB D sig k)) ∧ Below wd.heap.size wd wr) (fun _ i _ => 35 - (intOf i).toNat)
  case atStart => exact ⟨0, by omega, rfl, World.ownsRow_nil _ _ _ _, Below.refl _ _⟩
  case round =>
    obtain ⟨k, hk, rfl, hown, hbel⟩ := hrel
    have hz := hbel.size
    by_cases hlt : k < 35
    · have n1 : (k : Int) < 35 := by omega
      have n0 : 0 ≤ (k : Int) := by omega
      have hDk := HDe.out k
      have hps := part_size sig h k hlt
      have HS := fun w : World => Lib.hid (refstep_any (sig.extract (16 * k) (16 * (k + 1))) (by omega) (15 - D.getD k 0) (by omega) w)
      have HK := Lib.hid (recB_succ D sig k)
      have hxs := step_size _ hps (15 - D.getD k 0)
      have hLk := HL.out k (by omega)
      have hcell : ∀ x : Bel wr.heap.size wr, x.w.cell? ⟨gd, k, none⟩ = some (.int .i64 ((D.getD k 0 : Nat) : Int)) := fun x => x.cell (Nat.lt_of_lt_of_le HId.out.1 hbel.size) ((HId.out.keep hbel).2 k (by rw [HDl.out]; exact hlt))
      generalize stepN (sig.extract (16 * k) (16 * (k + 1))) (15 - D.getD k 0) = x at HS HK hxs
      generalize D.getD k 0 = d at HS hcell hDk
      rw [show sig.extract (16 * k) (16 * (k + 1)) = sig.extract (16 * k) (16 * k + 16) by congr 1] at HS
      rw [show (((15 - d : Nat)) : Int) = 15 - (d : Int) by omega] at HS
      have hd15 : (d : Int) ≤ 15 := by omega
      clear hps
      go_wp2_with fail
      refine wp_region_belT 14 wr.heap.size wr (by kernel_rfl) (by kernel_rfl) (Below.refl _ _) ?_
      simp only [List.take_succ_cons, List.take_zero, List.drop_succ_cons, List.drop_zero]
      repeat (go_big_quiet_step (first | (go_at_call 79; exact calls_bel (Nat.le_refl _) (HS _).out)))
      refine wpQuiet_nil ?_
      rintro ⟨w2, hw2⟩
      show wpList _ _ _ _ _ w2
      have hbel2 := hbel.trans (hw2.mono hz)
      have hown2 := hown.kept (row := none) (only_of_below hw2 none) (by cases hn : Value.ownBlock _ <;> simp)
      have hz2 := hbel2.size
      clear hcell hown hbel hz hw2
      go_wp2_with (at_builtin; go_must (refine Lib.wpList_append_own_string _ rfl (.tmp 18) (.tmp 31) 84 9 rfl wd.heap.size 5 i0 Try.underlying84 Try.underlying9 Hi.out Hz0.out Hz1.out Hz2.out _ _ _ (by rfl) hown2 x (by rfl) (by unfold maxLen; omega) (by omega) hz2 ?_); go_must (intro v1 w9 hown1 hgrow _))
      have hbel9 : Below wd.heap.size wd w9 := hbel2.grown hgrow hz2 (fun kk hk => (hown2.lt _ hk).1)
      have hown9 : w9.ownsRow wd.heap.size 5 1 v1 (16 * (k + 1)) (Lib.byteCells (recB D sig (k + 1))) :=
        own_str x (by rw [hLk]; exact hown1) HK.out (by rw [HL.out (k + 1) (by omega)])
      exact ⟨⟨k + 1, by omega, by go_num, hown9, hbel9⟩, by simp [intOf]; omega⟩
    · obtain rfl : k = 35 := by omega
      have hcv := str_of_own (P := Try.prog) 84 9 5 Try.underlying84 Try.underlying5 Try.underlying9 hown
      have HS := Lib.hid (refsum_any (bs (recB D sig 35)) (by rw [bs_size, HL.out 35 (by omega)]; omega) wr)
      rw [← HE.out] at HS
      generalize bs (recB D sig 35) = y at hcv HS
      clear hown hlt
      go_wp2_with fail
      refine HS.out.mono ?_
      rintro e w2 ⟨rfl, hb2⟩
      go_wp2_with fail
      go_ret2
      exact ⟨rfl, (hbd.trans (hbel.mono hzd)).trans (hb2.mono (by omega))⟩
end Go.Proofs.Ytljnadbfadgglaa
