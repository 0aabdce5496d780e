/- The reference's signatures. Condition: the seed and the text take at most 4,096 bytes each. -/
import Derived.Test.YtljnadbfadgglaaRefK
namespace Go.Proofs.Ytljnadbfadgglaa
open Go.RowKit
set_option maxRecDepth 100000
set_option linter.unusedVariables false
set_option linter.unusedSimpArgs false

theorem refsign_no (seed : ByteArray) (n : Int) (h : n < 0 ∨ 255 < n) (text : ByteArray) (w : World) :
    Calls Try.prog 50 #[.string seed, .int .i64 n, .string text] w fun e w' => e = .returned (.tuple #[.string ⟨#[]⟩, .int .i64 1]) ∧ w = w' := by
  rcases h with h | h
  · go_enter Try.func50, Try.ntmps50
    go_wp2_with fail
    go_ret2
    exact ⟨rfl, rfl⟩
  · have h0 : 0 ≤ n := by omega
    go_enter Try.func50, Try.ntmps50
    go_wp2_with fail
    go_ret2
    exact ⟨rfl, rfl⟩

set_option maxHeartbeats 400000 in
theorem refsign_yes (seed : ByteArray) (hs : seed.size ≤ 4096) (leaf : Nat) (hl : leaf ≤ 255) (text : ByteArray) (ht : text.size ≤ 4096) (w : World) :
    Calls Try.prog 50 #[.string seed, .int .i64 (leaf : Int), .string text] w fun e w' => e = .returned (.tuple #[.string (sigK seed leaf text), .int .i64 0]) ∧ Below w.heap.size w w' := by
  obtain ⟨i0, hi, hz0, hz1, hz2⟩ := info_parts info_byte
  have Hi := Lib.hid hi
  have Hz0 := Lib.hid hz0
  have Hz1 := Lib.hid hz1
  have Hz2 := Lib.hid hz2
  clear hi hz0 hz1 hz2
  have g0 : (0 : Int) ≤ (leaf : Int) := by omega
  have g1 : (leaf : Int) ≤ 255 := by omega
  have HB := fun (k : Nat) (hk : k ≤ 255) (w : World) => Lib.hid (refbegin_any seed hs leaf hl k hk w)
  have HL := Lib.hid (keyB_length seed leaf (fun i => (dg text).getD i 0))
  have HE : Hid (sigK seed leaf text = bs (keyB seed leaf (fun i => (dg text).getD i 0) 35)) := Lib.hid rfl
  have HD := fun w : World => Lib.hid (refdigits_c text ht w)
  have HDl := Lib.hid (dg_length text)
  have HDe := Lib.hid (dg_le text)
  generalize dg text = D at HL HE HD HDl HDe
  clear hs hl ht
  go_enter Try.func50, Try.ntmps50
  go_wp2_with fail
  refine (HD w).out.mono ?_
  rintro e wd ⟨gd, cd, rfl, hcd, hgd, hId, hbd⟩
  have HId := Lib.hid hId
  clear hId
  have hzd := hbd.size
  go_wp2_with fail
  go_loopw [9, 10] (fun v i wr => ∃ k : Nat, k ≤ 35 ∧ i = .int .i64 k ∧ wr.ownsRow wd.heap.size 5 1 v (16 * k) (Lib.byteCells (keyB seed leaf (fun i => D.getD i 0) k)) ∧ Below wd.heap.size wd wr) (fun _ i _ => 35 - (intOf i).toNat)
  case atStart => exact ⟨0, by omega, rfl, World.ownsRow_nil _ _ _ _, Below.refl _ _⟩
  case round =>
    obtain ⟨k, hk, rfl, hown, hbel⟩ := hrel
    have hz := hbel.size
    by_cases hlt : k < 35
    · have n1 : (k : Int) < 35 := by omega
      have n0 : 0 ≤ (k : Int) := by omega
      have hbs := beg_size seed leaf k
      have hDk := HDe.out k
      have hxs := step_size (beg seed leaf k) hbs (D.getD k 0)
      have HS := fun w : World => Lib.hid (refstep_any (beg seed leaf k) (by omega) (D.getD k 0) hDk w)
      have HK := Lib.hid (keyB_succ seed leaf (fun i => D.getD i 0) k)
      have hcell : ∀ x : Bel wr.heap.size wr, x.w.cell? ⟨gd, k, none⟩ = some (.int .i64 ((D.getD k 0 : Nat) : Int)) := fun x => x.cell (Nat.lt_of_lt_of_le HId.out.1 hbel.size) ((HId.out.keep hbel).2 k (by rw [HDl.out]; exact hlt))
      change Hid (keyB seed leaf (fun i => D.getD i 0) (k + 1) = keyB seed leaf (fun i => D.getD i 0) k ++ (stepN (beg seed leaf k) (D.getD k 0)).data.toList) at HK
      generalize stepN (beg seed leaf k) (D.getD k 0) = x at HS HK hxs
      clear hbs hDk
      have HBk := fun w : World => HB k (by omega) w
      generalize beg seed leaf k = b at HS HBk
      generalize D.getD k 0 = d at HS hcell
      go_wp2_with fail
      refine wp_region_belT 10 wr.heap.size wr (by kernel_rfl) (by kernel_rfl) (Below.refl _ _) ?_
      simp only [List.take_succ_cons, List.take_zero, List.drop_succ_cons, List.drop_zero]
      repeat (go_big_quiet_step (first | (go_at_call 80; exact calls_bel (Nat.le_refl _) (HBk _).out) | (go_at_call 79; exact calls_bel (Nat.le_refl _) (HS _).out)))
      refine wpQuiet_nil ?_
      rintro ⟨w2, hw2⟩
      show wpList _ _ _ _ _ w2
      have hbel2 := hbel.trans (hw2.mono hz)
      have hown2 := hown.kept (row := none) (only_of_below hw2 none) (by cases hn : Value.ownBlock _ <;> simp)
      have hz2 := hbel2.size
      clear hcell hown hbel hz hw2
      go_wp2_with (at_builtin; go_must (refine Lib.wpList_append_own_string _ rfl (.tmp 23) (.tmp 32) 84 9 rfl wd.heap.size 5 i0 Try.underlying84 Try.underlying9 Hi.out Hz0.out Hz1.out Hz2.out _ _ _ (by rfl) hown2 x (by rfl) (by unfold maxLen; omega) (by omega) hz2 ?_); go_must (intro v1 w9 hown1 hgrow _))
      have hbel9 : Below wd.heap.size wd w9 := hbel2.grown hgrow hz2 (fun kk hk => (hown2.lt _ hk).1)
      have hown9 : w9.ownsRow wd.heap.size 5 1 v1 (16 * (k + 1)) (Lib.byteCells (keyB seed leaf (fun i => D.getD i 0) (k + 1))) :=
        own_str x (by rw [HL.out]; exact hown1) HK.out (by rw [HL.out])
      exact ⟨⟨k + 1, by omega, by go_num, hown9, hbel9⟩, by simp [intOf]; omega⟩
    · obtain rfl : k = 35 := by omega
      have hcv := str_of_own (P := Try.prog) 84 9 5 Try.underlying84 Try.underlying5 Try.underlying9 hown
      rw [← HE.out] at hcv
      clear hown hlt
      go_wp2_with fail
      go_ret2
      exact ⟨rfl, hbd.trans (hbel.mono hzd)⟩
end Go.Proofs.Ytljnadbfadgglaa
