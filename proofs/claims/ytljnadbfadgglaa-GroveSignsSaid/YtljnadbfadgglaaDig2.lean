/- onetime.Digits: the digits of a text. Condition: the text takes at most 4,096 bytes. -/
import Derived.Test.YtljnadbfadgglaaDig
namespace Go.Proofs.Ytljnadbfadgglaa
open Go.RowKit
set_option maxRecDepth 100000
set_option linter.unusedVariables false

theorem mk35 (w : World) : (Instr.makeSlice 115 (.int .i64 0) (.int .i64 35)).run Try.prog w = .ok (.slice (some ⟨w.heap.size, 0, none⟩) 0 35) (w.alloc (.cells (madeCells #[Value.int .i64 0] 35) 3)) := by
  obtain ⟨i0, hi0, hz0, hz1, hz2⟩ := info_parts info_int
  have := run_make (P := Try.prog) w 115 3 i0 _ Try.underlying115 hi0 hz0 .i64 .i64 0 35 (by omega) (by omega) (by rw [hz2]; decide) (by decide)
  rw [this, hz1]
  rfl

theorem own_ne {w : World} {base n bb : Nat} {v : Value} {l : List Nat} {c : Int} (h : w.ownsRow base 3 1 v n (intCells l)) (hn : 0 < n) (hc : w.cell? ⟨bb, 0, none⟩ = some (.int .u8 c)) : v.ownBlock ≠ some bb := by
  obtain ⟨g, cap, rfl, _, _⟩ := h.form hn
  have hl : l.length = n := by have := h.1; simpa [intCells] using this
  intro e
  simp [Value.ownBlock] at e
  subst e
  have h0 := h.cellAt 0 (by omega)
  rw [hc] at h0
  have h1 : 0 < l.length := by omega
  simp [intCells, List.getElem?_eq_getElem h1] at h0

set_option maxRecDepth 100000 in
theorem and15 (n : Nat) (h : n < 481) : bits .and .i64 (n : Int) 15 = ((n % 16 : Nat) : Int) := by
  have h' : ∀ n : Fin 481, bits .and .i64 (n.val : Int) 15 = ((n.val % 16 : Nat) : Int) := by decide +kernel
  exact h' ⟨n, h⟩

theorem digs_ext (d x : ByteArray) (hx : x = d.extract 0 16) : digs x.data.toList = digs d.data.toList := by
  have e : x.data.toList = d.data.toList.take 16 := by
    rw [hx]
    have h := bs_extract d.data.toList 0 16
    rw [bs_of] at h
    rw [h, bs_data, List.drop_zero]
  unfold digs nibs nibSum
  rw [e, List.take_take, Nat.min_self]

set_option maxHeartbeats 400000 in
theorem digits_any (s : ByteArray) (hs : s.size ≤ 4096) (w : World) :
    Calls Try.prog 81 #[.string s] w fun e w' => ∃ v, e = .returned v ∧ w'.ownsRow w.heap.size 3 1 v 35 (intCells (digs (dig s).data.toList)) ∧ Below w.heap.size w w' := by
  have hd := dig_size s
  have hmk := mk35
  obtain ⟨M, hM⟩ : ∃ M, M = madeCells #[Value.int .i64 0] 35 := ⟨_, rfl⟩
  rw [← hM] at hmk
  have hMs : M.size = 35 := by rw [hM]; simp [madeCells]
  clear hM
  have HR := sum_one s (w.alloc (.cells M 3)) hs
  rw [show (w.alloc (.cells M 3)).heap.size = w.heap.size + 1 by simp] at HR
  clear hs
  have HR := Lib.hid HR
  go_enter Try.func81, Try.ntmps81
  go_wp2_with fail
  clear hmk
  refine HR.out.mono ?_
  rintro e w1 ⟨rfl, hb1⟩
  generalize hDd : dig s = d at hd ⊢
  have HDd := Lib.hid hDd
  have HB1 := Lib.hid hb1
  obtain ⟨x, hx⟩ : ∃ x, x = d.extract 0 16 := ⟨_, rfl⟩
  have hxs : x.size = 16 := by rw [hx, ByteArray.size_extract, hd]; rfl
  have hxd : digs x.data.toList = digs d.data.toList := digs_ext d x hx
  have HXD := Lib.hid hxd
  have HX := Lib.hid hx
  have hcv := fun W : World => Lib.run_convert_string_bytes (P := Try.prog) W 9 84 5 x Try.underlying9 Try.underlying84 Try.underlying5
  rw [hxs] at hcv
  rw [hx] at hcv
  have hz1 := hb1.size
  simp at hz1
  have Hblk : Hid ((Lib.bytesWorld w1 5 x).heap[w.heap.size]? = some (.cells M 3 (0, 0))) := Lib.hid ((Lib.bytesWorld_at_old w1 _ x w.heap.size (by omega)).trans ((hb1.block w.heap.size (by omega)).trans (heap_alloc_new w _)))
  have Hown : Hid ((Lib.bytesWorld w1 5 x).ownsRow w.heap.size 3 1 (.slice (some ⟨w.heap.size, 0, none⟩) 0 35) 0 (intCells (nibs x.data.toList 0))) :=
    Lib.hid ⟨by simp [intCells, nibs], .inr ⟨w.heap.size, 35, M, rfl, Nat.le_refl _, Hblk.out, by omega, by decide, by omega, by simp [intCells, nibs]⟩⟩
  have HB0 : Hid (Below w.heap.size w w1) := Lib.hid (((Below.refl _ _).alloc (Nat.le_refl _) _).trans (hb1.mono (by simp)))
  have hg1 : w.heap.size < w1.heap.size := by omega
  clear hDd hb1 HR hxd hx hMs HB1
  go_wp2_with fail
  clear hcv
  rw [← HX.out]
  have hB5 : Below w.heap.size w (Lib.bytesWorld w1 5 x) := HB0.out.trans ((below_bytes w1 x).mono (by omega))
  have hcB : ∀ j, j < 16 → (Lib.bytesWorld w1 5 x).cell? ⟨w1.heap.size, j, none⟩ = some (.int .u8 ((x.data.toList.getD j 0).toNat : Int)) := fun j hj => Lib.bytesWorld_cell w1 _ x j (by omega)
  have hs5 := Lib.bytesWorld_size w1 5 x
  have hown5 := Hown.out
  generalize Lib.bytesWorld w1 5 x = w5 at hB5 hcB hs5 hown5 ⊢
  have HB5 := Lib.hid hB5
  have HCB := Lib.hid hcB
  have HO5 := Lib.hid hown5
  have Hxl : Hid (x.data.toList.length = 16) := Lib.hid (by rw [Array.length_toList]; exact hxs)
  clear hB5 hcB hown5 Hown Hblk HB0
  go_loopw [3, 4, 15] (fun v sm i wr => ∃ k : Nat, k ≤ 16 ∧ i = .int .i64 k ∧ sm = .int .i64 ((nibSum x.data.toList k : Nat) : Int) ∧ wr.ownsRow w.heap.size 3 1 v (2 * k) (intCells (nibs x.data.toList k)) ∧ v.ownBlock ≠ some w1.heap.size ∧ Below w.heap.size w wr ∧ w1.heap.size < wr.heap.size ∧ Hid (∀ j, j < 16 → wr.cell? ⟨w1.heap.size, j, none⟩ = some (.int .u8 ((x.data.toList.getD j 0).toNat : Int)))) (fun _ _ i _ => 16 - (intOf i).toNat)
  case atStart => exact ⟨0, by omega, rfl, rfl, HO5.out, by simp [Value.ownBlock]; omega, HB5.out, by omega, HCB⟩
  case round =>
    obtain ⟨k, hk, rfl, rfl, hown, hne, hbel, hgt, hcell⟩ := hrel
    have hz := hbel.size
    have hle := nibSum_le x.data.toList k
    by_cases hlt : k < 16
    · have hc := hcell.out k hlt
      have e1 := nibs_succ x.data.toList k (by rw [Hxl.out]; omega)
      have e2 := nibSum_succ x.data.toList k (by rw [Hxl.out]; omega)
      have hb := (x.data.toList.getD k 0).toNat_lt
      generalize (x.data.toList.getD k 0).toNat = b at hc e1 e2 hb
      have n1 : 0 ≤ (k : Int) := by omega
      have n2 : (k : Int) < 16 := by omega
      go_wp2_with (at_builtin; go_must (refine app_lit rfl (.tmp 19) (.tmp 26) 115 3 rfl info_int Try.underlying115 rfl w wr w.heap.size w.heap.size (Nat.le_refl _) hz hbel _ _ _ (by rfl) hown _ 2 2 (by rfl) (by rfl) (by intro u hu; simp at hu; rcases hu with rfl | rfl <;> rfl) (by omega) (by unfold maxLen; omega) ?_); go_must (intro v1 w9 hown1 hbel1 hsz9 hgrow9); clear hown hbel hz)
      have hcell9 : ∀ j, j < 16 → w9.cell? ⟨w1.heap.size, j, none⟩ = some (.int .u8 ((x.data.toList.getD j 0).toNat : Int)) := by
        intro j hj
        have h := hcell.out j hj
        have hb : w9.heap[w1.heap.size]? = wr.heap[w1.heap.size]? := (hgrow9.block w1.heap.size (by simp; omega) (fun e => hne e.symm)).trans (Below.heap_alloc wr _ _ hgt)
        unfold World.cell? at h ⊢
        rw [hb]
        exact h
      have hown2 : w9.ownsRow w.heap.size 3 1 v1 (2 * (k + 1)) (intCells (nibs x.data.toList (k + 1))) := by
        rw [e1, intCells_append]
        simpa [intCells, Nat.mul_add] using hown1
      have hne9 : v1.ownBlock ≠ some w1.heap.size := own_ne hown2 (by omega) (hcell9 0 (by omega))
      clear hown1 hgrow9
      go_wp2_with fail
      refine ⟨⟨k + 1, by omega, by go_num, ?_, hown2, hne9, hbel1, by omega, Lib.hid hcell9⟩, by simp [intOf]; omega⟩
      rw [e2]
      congr 1
      try omega
    · obtain rfl : k = 16 := by omega
      have hdg : intCells (digs x.data.toList) = intCells (nibs x.data.toList 16) ++ intCells [(480 - nibSum x.data.toList 16) / 256, (480 - nibSum x.data.toList 16) / 16 % 16, (480 - nibSum x.data.toList 16) % 16] := intCells_append _ _
      obtain ⟨L, hL⟩ : ∃ L : Nat, L = 480 - nibSum x.data.toList 16 := ⟨_, rfl⟩
      rw [← hL] at hdg
      have hL2 : (480 : Int) - ((nibSum x.data.toList 16 : Nat) : Int) = (L : Int) := by omega
      have hL31 : L ≤ 480 := by omega
      have HDG := Lib.hid hdg
      have HL2 := Lib.hid hL2
      have Hcast := HL2
      generalize nibSum x.data.toList 16 = M' at hL hL2 hle HL2 ⊢
      subst hL
      have q1 := and15 (480 - M') (by omega)
      have q2 := and15 ((480 - M') / 16) (by omega)
      have q3 : (((480 - M') / 16 : Nat) : Int) = ((480 - M' : Nat) : Int) / 16 := by omega
      rw [q3] at q2
      clear hdg hlt hk hcell hne hL2
      go_wp2_with (at_builtin; go_must (refine app_lit rfl (.tmp 40) (.tmp 48) 115 3 rfl info_int Try.underlying115 rfl w wr w.heap.size w.heap.size (Nat.le_refl _) hz hbel _ _ _ (by rfl) hown _ 3 3 (by rfl) (by rfl) (by intro u hu; simp at hu; rcases hu with rfl | rfl | rfl <;> rfl) (by omega) (by unfold maxLen; omega) ?_); go_must (intro v1 w9 hown1 hbel1 _ _); clear hown hbel hz)
      go_ret
      rw [HDd.out, ← HXD.out, HDG.out]
      refine ⟨_, rfl, ?_, hbel1⟩
      simp only [HL2.out, q1, q2] at hown1
      generalize 480 - M' = L at hown1 ⊢
      simpa [intCells] using hown1
end Go.Proofs.Ytljnadbfadgglaa
