/- witanref03.Sum: the reference's digest is the plain one. Condition: a text of at most 2^32 bytes. -/
import Derived.Test.YtljnadbfadgglaaRefA
import Derived.Test.YtljnadbfadgglaaConv
import Derived.Test.YtljnadbfadgglaaSumW
namespace Go.Proofs.Ytljnadbfadgglaa
open Go.RowKit
set_option maxRecDepth 100000

theorem refconsts_w (w : World) (N : Nat) (hN : w.heap.size = N) : Calls Try.prog 91 #[] w fun e w' => e = .returned (.slice (some ⟨N, 0, none⟩) 64 64) ∧ (w'.heap[N]? = some (.cells kArr 127 (0, 0)) ∧ Below w.heap.size w w' ∧ w'.heap.size = N + 1) := by
  subst hN
  refine (refconsts_any w).mono ?_
  rintro e w' ⟨rfl, rfl⟩
  exact ⟨rfl, heap_alloc_new _ _, (Below.refl _ _).alloc (Nat.le_refl _) _, by simp⟩
theorem kArr_at (t : Nat) (h : t < 64) : kArr[t]? = some (.int .u32 (u (Sha.K.getD t 0))) := by
  unfold kArr kZ
  have : t < Sha.K.length := h
  simp [List.getD_eq_getElem?_getD, this]

theorem below_bytes (w : World) (s : ByteArray) : Below w.heap.size w (Lib.bytesWorld w 5 s) :=
  ⟨rfl, rfl, rfl, by rw [Lib.bytesWorld_size]; omega, fun k hk => Lib.bytesWorld_at_old w _ s k hk⟩
theorem bytesCells_size (w : World) (e : TypeId) (s : ByteArray) : (Lib.bytesCells w e s).size = grownCap w s.size 0 e := by
  have := grownCap_ge w s.size 0 e
  unfold Lib.bytesCells
  rw [Array.size_append, Array.size_map, Array.size_replicate]
  show s.size + _ = _
  omega
theorem bytesCells_at (w : World) (e : TypeId) (s : ByteArray) (j : Nat) (h : j < s.data.toList.length) : (Lib.bytesCells w e s)[j]? = some (.int .u8 (u (byW s.data.toList j))) := by
  rw [u_byW]
  unfold Lib.bytesCells
  have h' : j < s.data.size := h
  have e : s.data[j]? = some (s.data[j]'h') := Array.getElem?_eq_getElem h'
  rw [Array.getElem?_append_left (by simpa using h')]
  simp [List.getD_eq_getElem?_getD, e]

theorem st8_not_u8 (H : Sha.St) (i : Nat) (x : Int) (h : (st8 H)[i]? = some (.int .u8 x)) : False := by
  by_cases hi : i < 8
  · rw [st8_at H i hi] at h
    simp at h
  · rw [Array.getElem?_eq_none (by rw [st8_size]; omega)] at h
    cases h
theorem grow_tr {a b c : World} {row : Option Nat} (h : a.grownBy b row) (h' : b.grownBy c row) : a.grownBy c row :=
  ⟨h'.os.trans h.os, h'.tape.trans h.tape, h'.output.trans h.output, Nat.le_trans h.size h'.size, fun k hk hne => (h'.block k (Nat.lt_of_lt_of_le hk h.size) hne).trans (h.block k hk hne)⟩
theorem grow_new {a b c : World} {row : Option Nat} {x : Nat} (h : a.grownBy b row) (h' : b.grownBy c (some x)) (hx : a.heap.size ≤ x) : a.grownBy c row :=
  ⟨h'.os.trans h.os, h'.tape.trans h.tape, h'.output.trans h.output, Nat.le_trans h.size h'.size, fun k hk hne => (h'.block k (Nat.lt_of_lt_of_le hk h.size) (fun e => by injection e; omega)).trans (h.block k hk hne)⟩
theorem row8_cells {wr : World} {g : Nat} {st : Sha.St} (h : wr.heap[g]? = some (.cells (st8 st) 128 (0, 0))) :
    wr.cell? ⟨g, 0, none⟩ = some (.int .u32 (u st.a)) ∧ wr.cell? ⟨g, 1, none⟩ = some (.int .u32 (u st.b)) ∧ wr.cell? ⟨g, 2, none⟩ = some (.int .u32 (u st.c)) ∧ wr.cell? ⟨g, 3, none⟩ = some (.int .u32 (u st.d)) ∧
    wr.cell? ⟨g, 4, none⟩ = some (.int .u32 (u st.e)) ∧ wr.cell? ⟨g, 5, none⟩ = some (.int .u32 (u st.f)) ∧ wr.cell? ⟨g, 6, none⟩ = some (.int .u32 (u st.g)) ∧ wr.cell? ⟨g, 7, none⟩ = some (.int .u32 (u st.h)) := by
  have e := fun j => cell_of_row wr g j (st8 st) _ (0, 0) h
  exact ⟨(e 0).trans (st8_at st 0 (by decide)), (e 1).trans (st8_at st 1 (by decide)), (e 2).trans (st8_at st 2 (by decide)), (e 3).trans (st8_at st 3 (by decide)), (e 4).trans (st8_at st 4 (by decide)), (e 5).trans (st8_at st 5 (by decide)), (e 6).trans (st8_at st 6 (by decide)), (e 7).trans (st8_at st 7 (by decide))⟩

structure InvO (w : World) (hB kB : Nat) (va : Value) (l : List UInt8) (k : Nat) (a : Act) (w' : World) : Prop where
  size : a.tmps.size = 164
  defs : a.defers = []
  s3 : G a 3 = .pointer (some ⟨hB, 0, none⟩)
  s4 : G a 4 = .slice (some ⟨kB, 0, none⟩) 64 64
  s5 : G a 5 = va
  s6 : G a 6 = .int .i64 (64 * (k : Int))
  row : Row8 w hB (Sha.hash l k) w'

set_option maxRecDepth 100000 in
theorem invO_frame {w : World} {hB kB k : Nat} {va : Value} {l : List UInt8} {a : Act} {w' : World} (h : InvO w hB kB va l k a w') : ∃ v : Nat → Value, a = ⟨#[v 0, v 1, v 2, .pointer (some ⟨hB, 0, none⟩), .slice (some ⟨kB, 0, none⟩) 64 64, va, .int .i64 (64 * (k : Int)), v 7, v 8, v 9, v 10, v 11, v 12, v 13, v 14, v 15, v 16, v 17, v 18, v 19, v 20, v 21, v 22, v 23, v 24, v 25, v 26, v 27, v 28, v 29, v 30, v 31, v 32, v 33, v 34, v 35, v 36, v 37, v 38, v 39, v 40, v 41, v 42, v 43, v 44, v 45, v 46, v 47, v 48, v 49, v 50, v 51, v 52, v 53, v 54, v 55, v 56, v 57, v 58, v 59, v 60, v 61, v 62, v 63, v 64, v 65, v 66, v 67, v 68, v 69, v 70, v 71, v 72, v 73, v 74, v 75, v 76, v 77, v 78, v 79, v 80, v 81, v 82, v 83, v 84, v 85, v 86, v 87, v 88, v 89, v 90, v 91, v 92, v 93, v 94, v 95, v 96, v 97, v 98, v 99, v 100, v 101, v 102, v 103, v 104, v 105, v 106, v 107, v 108, v 109, v 110, v 111, v 112, v 113, v 114, v 115, v 116, v 117, v 118, v 119, v 120, v 121, v 122, v 123, v 124, v 125, v 126, v 127, v 128, v 129, v 130, v 131, v 132, v 133, v 134, v 135, v 136, v 137, v 138, v 139, v 140, v 141, v 142, v 143, v 144, v 145, v 146, v 147, v 148, v 149, v 150, v 151, v 152, v 153, v 154, v 155, v 156, v 157, v 158, v 159, v 160, v 161, v 162, v 163], []⟩ := by
  refine ⟨G a, (frame_of 164 a h.size h.defs).trans ?_⟩
  show (⟨#[G a 0, G a 1, G a 2, G a 3, G a 4, G a 5, G a 6, G a 7, G a 8, G a 9, G a 10, G a 11, G a 12, G a 13, G a 14, G a 15, G a 16, G a 17, G a 18, G a 19, G a 20, G a 21, G a 22, G a 23, G a 24, G a 25, G a 26, G a 27, G a 28, G a 29, G a 30, G a 31, G a 32, G a 33, G a 34, G a 35, G a 36, G a 37, G a 38, G a 39, G a 40, G a 41, G a 42, G a 43, G a 44, G a 45, G a 46, G a 47, G a 48, G a 49, G a 50, G a 51, G a 52, G a 53, G a 54, G a 55, G a 56, G a 57, G a 58, G a 59, G a 60, G a 61, G a 62, G a 63, G a 64, G a 65, G a 66, G a 67, G a 68, G a 69, G a 70, G a 71, G a 72, G a 73, G a 74, G a 75, G a 76, G a 77, G a 78, G a 79, G a 80, G a 81, G a 82, G a 83, G a 84, G a 85, G a 86, G a 87, G a 88, G a 89, G a 90, G a 91, G a 92, G a 93, G a 94, G a 95, G a 96, G a 97, G a 98, G a 99, G a 100, G a 101, G a 102, G a 103, G a 104, G a 105, G a 106, G a 107, G a 108, G a 109, G a 110, G a 111, G a 112, G a 113, G a 114, G a 115, G a 116, G a 117, G a 118, G a 119, G a 120, G a 121, G a 122, G a 123, G a 124, G a 125, G a 126, G a 127, G a 128, G a 129, G a 130, G a 131, G a 132, G a 133, G a 134, G a 135, G a 136, G a 137, G a 138, G a 139, G a 140, G a 141, G a 142, G a 143, G a 144, G a 145, G a 146, G a 147, G a 148, G a 149, G a 150, G a 151, G a 152, G a 153, G a 154, G a 155, G a 156, G a 157, G a 158, G a 159, G a 160, G a 161, G a 162, G a 163], []⟩ : Act) = _
  rw [h.s3, h.s4, h.s5, h.s6]

noncomputable def bodyO : Code := (loopsOf (Try.f54.body.getD .skip)).getD 0 .skip

set_option maxRecDepth 100000 in
set_option maxHeartbeats 1000000 in
theorem roundO {w : World} {hB kB k ab ao ac : Nat} {l : List UInt8} {a : Act} {wr : World} (hI : InvO w hB kB (.slice (some ⟨ab, ao, none⟩) l.length ac) l k a wr) (hlt : 64 * k + 64 ≤ l.length) (hmax : l.length ≤ 4294967296 + 72) (hac : l.length ≤ ac)
    (hkB : w.heap[kB]? = some (.cells kArr 127 (0, 0))) (hall : ∀ i, i < l.length → w.cell? ⟨ab, ao + i, none⟩ = some (.int .u8 (u (byW l i)))) (hne1 : kB ≠ hB) (hne2 : ab ≠ hB) (habl : ab < w.heap.size) (hhB : hB < w.heap.size)
    (K : Act → World → Prop) (hfin : ∀ a w', InvO w hB kB (.slice (some ⟨ab, ao, none⟩) l.length ac) l (k + 1) a w' → K a w') (Q : Exit → Act → World → Prop) : Code.wp Try.prog bodyO (Exit.then K Q) a wr := by
  obtain ⟨v, ha⟩ := invO_frame hI
  have hrow := hI.row
  have hwd := words_any ab (ao + 64 * k) (ac - 64 * k) ((l.drop (64 * k)).take 64) wr (fun i hi => by
    rw [hrow.far ab _ habl hne2, Nat.add_assoc, hall (64 * k + i) (by omega)]
    congr 3
    unfold byW
    rw [List.getD_eq_getElem?_getD, List.getD_eq_getElem?_getD, List.getElem?_take, if_pos hi, List.getElem?_drop]) (Nat.lt_of_lt_of_le habl hrow.1.size)
  have HW := Lib.hid hwd
  have Hr := Lib.hid hrow
  have Hf := Lib.hid hfin
  have Hall := Lib.hid hall
  have HkB := Lib.hid hkB
  clear hI hfin hrow hwd hall hkB
  have b1 : 64 * (k : Int) + 64 ≤ (l.length : Int) := by omega
  have b2 : (l.length : Int) ≤ 4294967296 + 72 := by omega
  have b3 : (l.length : Int) ≤ (ac : Int) := by omega
  subst ha
  conv => arg 2; whnf
  go_wp2_with fail
  refine HW.out.mono ?_
  rintro e w5 ⟨gW, cW, rfl, hown, hb5⟩
  obtain ⟨H, hH⟩ : ∃ H, H = Sha.hash l k := ⟨_, rfl⟩
  have hrow := Hr.out
  rw [← hH] at hrow
  have hh5 : w5.heap[hB]? = some (.cells (st8 H) 128 (0, 0)) := (hb5.block hB (Nat.lt_of_lt_of_le hhB hrow.1.size)).trans hrow.2
  have hk5 : w5.heap[kB]? = some (.cells kArr 127 (0, 0)) := (hb5.block kB (Nat.lt_of_lt_of_le (Array.getElem?_eq_some_iff.1 HkB.out).1 hrow.1.size)).trans ((hrow.1.block kB (Array.getElem?_eq_some_iff.1 HkB.out).1 (fun e => hne1 (by injection e))).trans HkB.out)
  have hgr5 : w.grownBy w5 (some hB) := grow_tr hrow.1 (only_of_below hb5 _)
  obtain ⟨_, _, hf, hg1, hg2⟩ := hown.form (by decide)
  simp only [Value.slice.injEq, Option.some.injEq, Addr.mk.injEq, and_true, true_and] at hf
  obtain ⟨rfl, rfl⟩ := hf
  have hw5 : ∀ t, t < 64 → w5.cell? ⟨gW, t, none⟩ = some (.int .u32 (u (Sha.W ((l.drop (64 * k)).take 64) t))) := by
    intro t ht
    rw [hown.cellAt t (by omega)]
    have hl : (Sha.more (Sha.first ((l.drop (64 * k)).take 64)) 48).length = 64 := by rw [more_length]; simp [Sha.first]
    simp [uCells, Sha.W, List.getD_eq_getElem?_getD, hl, ht]
  obtain ⟨hc0, hc1, hc2, hc3, hc4, hc5, hc6, hc7⟩ := row8_cells hh5
  have Hh5 := Lib.hid hh5
  have Hk5 := Lib.hid hk5
  have Hgr5 := Lib.hid hgr5
  have Hw5 := Lib.hid hw5
  have HH := Lib.hid hH
  have Hg2 := Lib.hid hg2
  clear hh5 hk5 hgr5 hown hg1 hg2 hw5 hH hrow Hr HW hb5 HkB Hall
  obtain ⟨B, hBB⟩ : ∃ B, B = (l.drop (64 * k)).take 64 := ⟨_, rfl⟩
  rw [← hBB] at Hw5
  have HBB := Lib.hid hBB
  clear hBB
  go_wp2_with fail
  clear hc0 hc1 hc2 hc3 hc4 hc5 hc6 hc7
  have hkl : kB < w5.heap.size := (Array.getElem?_eq_some_iff.1 Hk5.out).1
  have hhl : hB < w5.heap.size := (Array.getElem?_eq_some_iff.1 Hh5.out).1
  have hgl := Hg2.out
  have hR : Reads8 (w5.alloc (.cells (st8 H) 128)) kB gW w5.heap.size B := by
    refine ⟨fun t ht => ?_, fun t ht => ?_, by omega, by omega, by simp; omega, by simp; omega⟩
    · rw [World.cell?_of_block (w := w5) (Below.heap_alloc w5 _ kB hkl), cell_of_row w5 kB t _ _ (0, 0) Hk5.out, kArr_at t ht]
    · rw [World.cell?_of_block (w := w5) (Below.heap_alloc w5 _ gW hgl), Hw5.out t ht]
  have HR := Lib.hid hR
  clear hR Hw5
  refine wp_loop_ghost (fun n a w' => n ≤ 64 ∧ InvC (w5.alloc (.cells (st8 H) 128)) hB kB gW cW w5.heap.size (.slice (some ⟨ab, ao, none⟩) l.length ac) (.int .i64 (64 * (k : Int))) B H (64 - n) a w') 64 ?_ ?_
  · exact ⟨Nat.le_refl _, rfl, rfl, rfl, rfl, rfl, rfl, rfl, rfl, rfl, World.grownBy.refl _ _, heap_alloc_new _ _⟩
  intro n a w6 hI
  obtain ⟨hn, hI⟩ := hI
  by_cases h0 : n = 0
  · subst h0
    obtain ⟨v', ha⟩ := invC_frame hI
    obtain ⟨C, hC⟩ : ∃ C, C = Sha.comp (Sha.W B) H 64 := ⟨_, rfl⟩
    have hr6 := hI.row
    rw [← hC] at hr6
    have hx6 : w6.heap[w5.heap.size]? = some (.cells (st8 C) 128 (0, 0)) := hr6.2
    have hh6 : w6.heap[hB]? = some (.cells (st8 H) 128 (0, 0)) := (hr6.1.block hB (by simp; omega) (fun e => by injection e; omega)).trans ((Below.heap_alloc w5 _ hB hhl).trans Hh5.out)
    have hg6 : w.grownBy w6 (some hB) := grow_new (only_alloc Hgr5.out _) hr6.1 Hgr5.out.size
    have HC := Lib.hid hC
    have Hx6 := Lib.hid hx6
    have Hh6 := Lib.hid hh6
    have Hg6 := Lib.hid hg6
    clear hI hn hC hr6 hx6 hh6 hg6
    subst ha
    go_wp2_with fail
    refine wp_loop_ghost (fun n a w' => n ≤ 8 ∧ InvA w6 hB kB w5.heap.size (.slice (some ⟨ab, ao, none⟩) l.length ac) (.int .i64 (64 * (k : Int))) H C (8 - n) a w') 8 ?_ ?_
    · exact ⟨Nat.le_refl _, rfl, rfl, rfl, rfl, rfl, rfl, rfl, rfl, by rw [show 8 - 8 = 0 from rfl, addTo_zero]; exact ⟨World.grownBy.refl _ _, Hh6.out⟩⟩
    intro n a w7 hI
    obtain ⟨hn, hI⟩ := hI
    by_cases h0 : n = 0
    · subst h0
      obtain ⟨v'', ha⟩ := invA_frame hI
      have hr7 := hI.row
      rw [show 8 - 0 = 8 from rfl, addTo_all] at hr7
      have hr8 : Row8 w hB (Sha.hash l (k + 1)) w7 := by
        refine ⟨grow_tr Hg6.out hr7.1, ?_⟩
        rw [hash_succ, ← HH.out, ← HBB.out]
        show _ = some (Obj.cells (st8 (H.add (Sha.comp (Sha.W B) H 64))) _ _)
        rw [← HC.out]
        exact hr7.2
      have HR8 := Lib.hid hr8
      clear hI hn hr7 hr8
      subst ha
      go_wp2_with fail
      refine Hf.out _ _ ⟨rfl, rfl, rfl, rfl, rfl, ?_, HR8.out⟩
      show Value.int .i64 _ = _
      go_num
    · refine roundA hI Hx6.out (by omega) (by omega) _ (fun a' w' h' => ?_) _
      exact ⟨n - 1, by omega, by omega, by rw [show 8 - (n - 1) = 8 - n + 1 by omega]; exact h'⟩
  · refine roundC hI HR.out (by omega) _ (fun a' w' h' => ?_) _
    exact ⟨n - 1, by omega, by omega, by rw [show 64 - (n - 1) = 64 - n + 1 by omega]; exact h'⟩

set_option maxRecDepth 100000 in
set_option maxHeartbeats 1000000 in
theorem refsum_any (s : ByteArray) (hs : s.size ≤ 4294967296) (w : World) :
    Calls Try.prog 54 #[.string s] w fun e w' => e = .returned (.string (dig s)) ∧ Below w.heap.size w w' := by
  have Hs := Lib.hid hs
  clear hs
  have hcv := fun W : World => Lib.run_convert_string_bytes (P := Try.prog) W 9 84 5 s Try.underlying9 Try.underlying84 Try.underlying5
  go_enter Try.func54, Try.ntmps54
  go_wp2_with fail
  refine (refconsts_w _ (w.heap.size + 1) (by simp)).mono ?_
  rintro e w1 ⟨rfl, hk, hb1, hsz1⟩
  have hh : w1.heap[w.heap.size]? = some (.cells (st8 Sha.H0) 128 (0, 0)) := (hb1.block w.heap.size (by simp)).trans ((heap_alloc_new w _).trans (by rw [st8, ← H0_agg]))
  have hB1 : Below w.heap.size w w1 := ((Below.refl _ _).alloc (Nat.le_refl _) _).trans (hb1.mono (by simp))
  have Hk := Lib.hid hk
  have Hh := Lib.hid hh
  have HB1 := Lib.hid hB1
  have Hsz1 := Lib.hid hsz1
  clear hk hh hB1 hb1 hsz1
  go_wp2_with fail
  have hbs := Lib.bytesWorld_size w1 5 s
  have HX := Lib.hid hbs
  clear hbs
  refine (refpad_any s.size Hs.out _).mono ?_
  rintro e w3 ⟨v3, rfl, hown3, hb3⟩
  clear hcv
  have hb13 : Below w1.heap.size w1 w3 := (below_bytes w1 s).trans (hb3.mono (by rw [HX.out]; omega))
  have hrow3 : w3.heap[w1.heap.size]? = some (.cells (Lib.bytesCells w1 5 s) 5 ((Lib.bytesCells w1 5 s).size, (Lib.bytesCells w1 5 s).size + 1)) := (hb3.block _ (by rw [HX.out]; omega)).trans (Lib.bytesWorld_at_new w1 _ s)
  have Hrow3 := Lib.hid hrow3
  have Hb13 := Lib.hid hb13
  clear hrow3 hb13 hb3
  go_wp2_with (at_builtin; go_must (refine app_conv rfl (.tmp 22) (.tmp 25) rfl w1 w3 Hb13.out w1.heap.size (grownCap w1 s.size 0 5) _ s.data.toList _ rfl (Nat.le_refl _) Hrow3.out (by rw [bytesCells_size]; exact Nat.le_refl _) (by rw [bytesCells_size]; exact Nat.le_refl _) (fun j hj => bytesCells_at w1 _ s j hj) _ _ _ (Sha.pad s.size) (by rfl) hown3 (by rw [pad_length]; omega) (by have := Hs.out; rw [pad_length, Array.length_toList]; show s.size + _ ≤ _; omega) ?_); go_must (intro v5 w5 hhas hbel5); clear hown3)
  obtain ⟨ab, ao, ac, hv5, hac, habl, hall⟩ := hhas
  have hk5 : w5.heap[w.heap.size + 1]? = some (.cells kArr 127 (0, 0)) := (hbel5.block _ (Array.getElem?_eq_some_iff.1 Hk.out).1).trans Hk.out
  have hh5 : w5.heap[w.heap.size]? = some (.cells (st8 Sha.H0) 128 (0, 0)) := (hbel5.block _ (Array.getElem?_eq_some_iff.1 Hh.out).1).trans Hh.out
  have hB5 : Below w.heap.size w w5 := HB1.out.trans (hbel5.mono HB1.out.size)
  have hall : ∀ i, i < (padded s).length → w5.cell? ⟨ab, ao + i, none⟩ = some (.int .u8 (u (byW (padded s) i))) := hall
  change v5 = .slice (some ⟨ab, ao, none⟩) (padded s).length ac at hv5
  change (padded s).length ≤ ac at hac
  have hmod := padded_length s
  have hd := dig_hash s
  have hmax : (padded s).length ≤ 4294967296 + 72 := by
    have := Hs.out
    unfold padded
    rw [List.length_append, pad_length, Array.length_toList]
    show s.size + _ ≤ _
    omega
  have hpos : 0 < (padded s).length := by unfold padded; rw [List.length_append, pad_length]; omega
  rw [hv5]
  generalize padded s = l at hpos hall hac hmod hd hmax
  have hl8 : 0 < l.length := hpos
  have hab : ab ≠ w.heap.size := by
    intro e
    have h0 := hall 0 hl8
    rw [e, cell_of_row w5 _ _ _ _ (0, 0) hh5] at h0
    exact st8_not_u8 _ _ _ h0
  have hhl5 : w.heap.size < w5.heap.size := (Array.getElem?_eq_some_iff.1 hh5).1
  have HD := Lib.hid hd
  have Hall := Lib.hid hall
  have Hk5 := Lib.hid hk5
  have Hh5 := Lib.hid hh5
  have HB5 := Lib.hid hB5
  clear hd hall hk5 hh5 hB5 hbel5 hv5 hl8 hpos Hrow3 Hb13 HX
  refine wp_loop_ghost (fun n a w' => n ≤ l.length / 64 ∧ InvO w5 w.heap.size (w.heap.size + 1) (.slice (some ⟨ab, ao, none⟩) l.length ac) l (l.length / 64 - n) a w') (l.length / 64) ?_ ?_
  · exact ⟨Nat.le_refl _, rfl, rfl, rfl, rfl, rfl, by rw [Nat.sub_self]; rfl, by rw [Nat.sub_self]; exact ⟨World.grownBy.refl _ _, Hh5.out⟩⟩
  intro n a w9 hI
  obtain ⟨hn, hI⟩ := hI
  by_cases h0 : n = 0
  · subst h0
    obtain ⟨v, ha⟩ := invO_frame hI
    obtain ⟨H, hH⟩ : ∃ H, H = Sha.hash l (l.length / 64) := ⟨_, rfl⟩
    have hr9 := hI.row
    rw [Nat.sub_zero, ← hH] at hr9
    rw [← hH] at HD
    have hB9 : Below w.heap.size w w9 := HB5.out.grown hr9.1 HB5.out.size (fun j hj => by injection hj; omega)
    have hlen : 64 * (((l.length / 64 - 0 : Nat)) : Int) = (l.length : Int) := by omega
    rw [hlen] at ha
    have Hr9 := Lib.hid hr9
    have HB9 := Lib.hid hB9
    have hhl9 : w.heap.size < w9.heap.size := Nat.lt_of_lt_of_le hhl5 hr9.1.size
    clear hI hn hH hr9 hB9 hlen Hall Hk5 Hh5 HB5 HB1 Hk Hh Hsz1
    obtain ⟨i0, hi0, hz0, hz1, hz2⟩ := info_parts info_byte
    have Hi0 := Lib.hid hi0
    have Hz0 := Lib.hid hz0
    have Hz1 := Lib.hid hz1
    have Hz2 := Lib.hid hz2
    clear hi0 hz0 hz1 hz2
    subst ha
    go_wp2_with fail
    go_loopw [17, 18] (fun x i w' => ∃ n : Nat, n ≤ 8 ∧ i = .int .i64 n ∧ w'.ownsRow w9.heap.size 5 1 x (4 * n) (Lib.byteCells (outTo H n)) ∧ Below w9.heap.size w9 w') (fun _ i _ => 8 - (intOf i).toNat)
    case atStart => exact ⟨0, by omega, rfl, World.ownsRow_nil _ _ _ _, Below.refl _ _⟩
    case round =>
      obtain ⟨n, hn, rfl, hown, hbel⟩ := hrel
      have hz := hbel.size
      by_cases hlt : n < 8
      · have hc := (hbel.cell (p := ⟨w.heap.size, n, none⟩) hhl9).trans (Hr9.out.cell n hlt)
        have hoc := out_cells H n hlt
        generalize at_ H n = A at hc hoc
        have HOC := Lib.hid hoc
        have n1 : 0 ≤ (n : Int) := by omega
        have n2 : (n : Int) < 8 := by omega
        clear hoc
        go_wp2_with fail
        go_region_held3 (fun w' => w'.cell? ⟨w.heap.size, n, none⟩ = some (.int .u32 (u A)))
          (first
            | go_keep
            | (rw [hgrow.cell_far _ (by simp; omega) (fun e => by have := (hown.lt _ e.symm).1; dsimp only at this; omega)]; assumption))
          ((refine step_append_lies _ (by rfl) _ _ _ (by rfl) w9.heap.size 5 i0 _ 1 1 Try.underlying84 Hi0.out Hz0.out Hz1.out Hz2.out rfl (by omega) _ (4 * n) _ (by rfl) ((hown.alloc _).drew) ⟨wr.heap.size, 0, none⟩ 4 4 [_, _, _, _] (by rfl) (by rfl) (World.news_of_block (cs := #[_, _, _, _]) (t := 5) (fr := (0, 0)) (heap_alloc_new wr _)) (by simp [Value.oneCell']) (by omega) (by unfold maxLen; omega) (by omega) (by simp; omega) (wr.heap.size + 1) (by simp) ?_; intro gn cap w10 hown1 hgrow hat hlt1))
        have hbel1 : Below w9.heap.size w9 w10 := ((hbel.alloc hz _).drew).grown hgrow (by simp; omega) (fun kk hk => (hown.lt _ hk).1)
        have hown2 : w10.ownsRow w9.heap.size 5 1 (.slice (some ⟨gn, 0, none⟩) (4 * n + 4) cap) (4 * (n + 1)) (Lib.byteCells (outTo H (n + 1))) := by
          simp only [IntKind.wrap_u8] at hown1
          rw [HOC.out, ← u_shr24, ← u_shr16, ← u_shr8]
          exact hown1
        clear hown1 hgrow hat hlt1 hown hbel hz n1 n2 hc HOC
        go_wp2_with fail
        refine ⟨⟨n + 1, by omega, by go_num, hown2, hbel1⟩, by simp [intOf]; omega⟩
      · obtain rfl : n = 8 := by omega
        have hcv := str_of_own (P := Try.prog) 84 9 5 Try.underlying84 Try.underlying5 Try.underlying9 hown
        rw [outTo_all, ← HD.out] at hcv
        clear hown hlt
        go_wp2
        go_ret
        exact ⟨rfl, HB9.out.trans (hbel.mono (by omega))⟩
  · refine roundO hI (by omega) hmax hac Hk5.out Hall.out (by omega) hab habl hhl5 _ (fun a' w' h' => ?_) _
    exact ⟨n - 1, by omega, by omega, by rw [show l.length / 64 - (n - 1) = l.length / 64 - n + 1 by omega]; exact h'⟩
end Go.Proofs.Ytljnadbfadgglaa
