/- GroveTaken: each leaf serves once, each signature is taken and no other length. No condition.  -/
import Derived.Test.YtljnadbfadgglaaGFar
import Derived.Test.YtljnadbfadgglaaPlant
import Derived.Test.YtljnadbfadgglaaJoin
namespace Go.Proofs.Ytljnadbfadgglaa
open Go.ChangeShapes Go.WideShapes Go.ChangeAt Go.RowKit
open Go.ChangeMaps (open_string shut_string)
set_option maxRecDepth 100000
set_option linter.unusedVariables false
set_option linter.unusedSimpArgs false

namespace GroveTaken

theorem info_b6 : (Try.prog.info? 4).map (fun i => (i.zero, i.size, i.bytes)) = some (some (.bool false), 1, 1) := by kernel_rfl
theorem mkB (w : World) : (Instr.makeSlice 46 (.int .i64 256) (.int .i64 256)).run Try.prog w = .ok (.slice (some ⟨w.heap.size, 0, none⟩) 256 256) (w.alloc (.cells (madeCells #[Value.bool false] 256) 4)) := by
  obtain ⟨i0, hi0, hz0, hz1, hz2⟩ := info_parts info_b6
  have := run_make (P := Try.prog) w 46 4 i0 _ Try.underlying46 hi0 hz0 .i64 .i64 256 256 (by omega) (by omega) (by rw [hz2]; decide) (by decide)
  rw [this, hz1]
  rfl

/-- The leaves that have been used. -/
def Marks (w : World) (g u : Nat) : Prop := ∃ cur : Array Value, w.heap[g]? = some (.cells cur 4 (0, 0)) ∧ cur.size = 256 ∧ ∀ j, j < 256 → cur[j]? = some (.bool (decide (j < u)))
theorem marks0 (w : World) : Marks (w.alloc (.cells (madeCells #[Value.bool false] 256) 4)) w.heap.size 0 := by
  refine ⟨_, heap_alloc_new w _, size_madeCells _ _, fun j hj => ?_⟩
  rw [← Array.getElem?_toList, toList_madeCells_one, List.getElem?_replicate, if_pos hj, decide_eq_false (Nat.not_lt_zero j)]
theorem Marks.block {w w' : World} {g u : Nat} (h : Marks w g u) (e : w'.heap[g]? = w.heap[g]?) : Marks w' g u := by
  obtain ⟨cur, h1, h2⟩ := h
  exact ⟨cur, e.trans h1, h2⟩
theorem Marks.lt {w : World} {g u : Nat} (h : Marks w g u) : g < w.heap.size := by
  obtain ⟨cur, h1, h2⟩ := h
  exact (Array.getElem?_eq_some_iff.1 h1).1
theorem Marks.set {w : World} {g u : Nat} (h : Marks w g u) (hu : u < 256) : Marks (w.setCell ⟨g, u, none⟩ (.bool true)) g (u + 1) := by
  obtain ⟨cur, h1, h2, h3⟩ := h
  refine ⟨_, heap_setCell_same w g u _ _ _ h1, by simpa using h2, fun j hj => ?_⟩
  rw [Array.getElem?_setIfInBounds]
  by_cases e : u = j
  · subst e
    rw [if_pos rfl, if_pos (by omega)]
    simp
  · rw [if_neg e, h3 j hj]
    congr 3
    apply propext
    omega
theorem Marks.cell {w : World} {g u : Nat} (h : Marks w g u) (hu : u < 256) : w.cell? ⟨g, u, none⟩ = some (.bool false) ∧ w.frozen? ⟨g, u, none⟩ = false := by
  obtain ⟨cur, h1, h2, h3⟩ := h
  refine ⟨?_, frozen_of_row w g u _ _ h1⟩
  rw [cell_of_row w g u _ _ _ h1, h3 u hu]
  simp

theorem walk_long (s : ByteArray) (f : Int) (A : Option Addr) (m c : Nat) (W : World) (h : 4096 < s.size) :
    Calls Try.prog 7 #[.agg #[.string s, .int .i64 f], .slice A m c] W fun e w' => e = .returned (.bool true) ∧ Below W.heap.size W w' := by
  have HN := fun w : World => Lib.hid (short_no6 s h w)
  go_enter Try.func7, Try.ntmps7
  go_wp2_with fail
  refine (lives6 _).mono ?_
  rintro e w1 ⟨rfl, hb1⟩
  have hr : w1.heap[W.heap.size]? = some (.cells #[.string s, .int .i64 f] 23 (0, 0)) := (hb1.block _ (by simp)).trans (heap_alloc_new W _)
  have c0 := cell_of_row w1 W.heap.size 0 _ _ _ hr
  simp at c0
  have hB1 : Below W.heap.size W w1 := ((Below.refl _ _).alloc (Nat.le_refl _) _).trans (hb1.mono (by simp))
  clear hr hb1
  go_wp2_with fail
  refine (HN w1).out.mono ?_
  rintro e w2 ⟨rfl, rfl⟩
  go_wp2_with fail
  refine (lives6 w1).mono ?_
  rintro e w2 ⟨rfl, hb2⟩
  go_wp2_with fail
  go_ret
  exact ⟨rfl, hB1.trans (hb2.mono hB1.size)⟩

theorem walk_no (s : ByteArray) (f : Int) (A : Option Addr) (m c : Nat) (W : World) (h : s.size ≤ 4096) (hn : highB f = false) :
    Calls Try.prog 7 #[.agg #[.string s, .int .i64 f], .slice A m c] W fun e w' => e = .returned (.bool true) ∧ Below W.heap.size W w' := by
  have HN := fun w : World => Lib.hid (short_yes6 s h w)
  have H2 := fun w : World => Lib.hid (new_no s f hn w)
  clear h
  go_enter Try.func7, Try.ntmps7
  go_wp2_with fail
  refine (lives6 _).mono ?_
  rintro e w1 ⟨rfl, hb1⟩
  have hr : w1.heap[W.heap.size]? = some (.cells #[.string s, .int .i64 f] 23 (0, 0)) := (hb1.block _ (by simp)).trans (heap_alloc_new W _)
  have c0 := cell_of_row w1 W.heap.size 0 _ _ _ hr
  have c1 := cell_of_row w1 W.heap.size 1 _ _ _ hr
  simp at c0 c1
  have hB1 : Below W.heap.size W w1 := ((Below.refl _ _).alloc (Nat.le_refl _) _).trans (hb1.mono (by simp))
  clear hr hb1
  go_wp2_with fail
  refine (HN w1).out.mono ?_
  rintro e w2 ⟨rfl, rfl⟩
  go_wp2_with fail
  refine (H2 w1).out.mono ?_
  rintro e w2 ⟨rfl, rfl⟩
  go_wp2_with fail
  go_ret
  exact ⟨rfl, hB1⟩

/-- What a signature has: its leaf first; it is taken; another length isn't. -/
theorem facts (s : ByteArray) (h : Nat) (hh : h ≤ 5) (t : ByteArray) (ht : t.size ≤ 4096) (u : Nat) (hu : u < 2 ^ h) : ∃ (T : ByteArray) (z : Nat), sgn s u t h = T ∧ T.size = z + 1 ∧ 1 ≤ z ∧ z ≤ 1000 ∧ (∃ hp : 0 < T.size, (T[0]'hp).toNat = u) ∧
    (∀ w, Calls Try.prog 26 #[.string (nodeK s h 0), .int .i64 (h : Int), .string t, .string T] w fun e w' => e = .returned (.bool true) ∧ Below w.heap.size w w') ∧
    (∀ w, Calls Try.prog 26 #[.string (nodeK s h 0), .int .i64 (h : Int), .string t, .string (T.extract 0 z)] w fun e w' => e = .returned (.bool false) ∧ Below w.heap.size w w') ∧
    (∀ w, Calls Try.prog 26 #[.string (nodeK s h 0), .int .i64 (h : Int), .string t, .string (T ++ ⟨#[120]⟩)] w fun e w' => e = .returned (.bool false) ∧ Below w.heap.size w w') := by
  have hsz := sgn_size s u t h
  have hp := (pow_int h hh).1
  have hpos : 0 < (sgn s u t h).size := by omega
  have hd : ∀ (T : ByteArray) (hT : 0 < T.size), (T[0]'hT).toNat = leafN T.data.toList := by
    intro T hT
    have hT' : 0 < (bs T.data.toList).size := by rw [bs_of]; exact hT
    have := head_data T.data.toList hT'
    rw [← this]
    first | (congr 1; done) | (congr 1; simp only [bs_of])
  refine ⟨sgn s u t h, 560 + 32 * h, rfl, by rw [hsz]; omega, by omega, by omega, ⟨hpos, (hd _ hpos).trans (leaf_sgn s u t h (by omega))⟩, fun w => ?_, fun w => ?_, fun w => ?_⟩
  · have := verify_u (nodeK s h 0) h t ht (sgn s u t h) w
    rwa [ver_sgn s u t h hh hu] at this
  · have := verify_u (nodeK s h 0) h t ht ((sgn s u t h).extract 0 (560 + 32 * h)) w
    rwa [ver_len _ _ _ _ (by rw [ByteArray.size_extract, hsz, Int.toNat_natCast]; omega)] at this
  · have := verify_u (nodeK s h 0) h t ht (sgn s u t h ++ ⟨#[120]⟩) w
    rwa [ver_len _ _ _ _ (by rw [ByteArray.size_append, hsz, Int.toNat_natCast]; show 561 + 32 * h + 1 ≠ _; omega)] at this

set_option maxHeartbeats 2000000 in
theorem walk_yes (s : ByteArray) (h : Nat) (hh : h ≤ 5) (A : Option Addr) (m c : Nat) (xs : List ByteArray) (W : World) (hT : Texts W A m c xs) (hm63 : m ≤ 9223372036854775807) (hs : s.size ≤ 4096) :
    Calls Try.prog 7 #[.agg #[.string s, .int .i64 (h : Int)], .slice A m c] W fun e w' => e = .returned (.bool true) ∧ Below W.heap.size W w' := by
  have hp := pow_int h hh
  obtain ⟨N, hN⟩ : ∃ N, N = 2 ^ h := ⟨_, rfl⟩
  have HN := fun w : World => Lib.hid (short_yes6 s hs w)
  have HW := fun w : World => Lib.hid (new_yes s hs h hh w)
  have HL0 := fun (w : World) (B b : Nat) (hx : SignerAt w B b s h 0) => Lib.hid (sleft_yes hh (Nat.zero_le _) hx)
  rw [Nat.sub_zero, ← hN] at HL0
  have HL := fun (w : World) (B b u : Nat) (hu : u ≤ N) (hx : SignerAt w B b s h u) => Lib.hid (sleft_yes hh (by rw [← hN]; exact hu) hx)
  rw [← hN] at HL
  have HR := fun (w : World) (B b u : Nat) (hx : SignerAt w B b s h u) => Lib.hid (sroot_yes hh hx)
  have HS := fun (t : ByteArray) (ht : t.size ≤ 4096) (w : World) (B b u : Nat) (hu : u < N) (hx : SignerAt w B b s h u) => Lib.hid (ssign_yes t ht hs hh (by rw [← hN]; exact hu) hx)
  have HZ := fun (t : ByteArray) (w : World) (B b u : Nat) (hu : u = N) (hx : SignerAt w B b s h u) => Lib.hid (ssign_spent t hh (by rw [← hN]; exact hu) hx)
  have HF := fun (t : ByteArray) (ht : t.size ≤ 4096) (u : Nat) (hu : u < N) => Lib.hid (facts s h hh t ht u (by rw [← hN]; exact hu))
  generalize nodeK s h 0 = r at HR HF
  have HT := Lib.hid hT
  have hN32 : N ≤ 32 := by rw [hN]; exact hp.1
  have hmk := mkB
  have hmk0 := fun w : World => Lib.hid (marks0 w)
  obtain ⟨M, hM⟩ : ∃ M, M = madeCells #[Value.bool false] 256 := ⟨_, rfl⟩
  rw [← hM] at hmk hmk0
  clear hp hN hM hT hs
  go_enter Try.func7, Try.ntmps7
  go_wp2_with fail
  refine (lives6 _).mono ?_
  rintro e w1 ⟨rfl, hb1⟩
  have hr : w1.heap[W.heap.size]? = some (.cells #[.string s, .int .i64 (h : Int)] 23 (0, 0)) := (hb1.block _ (by simp)).trans (heap_alloc_new W _)
  have hlt : W.heap.size < w1.heap.size := (Array.getElem?_eq_some_iff.1 hr).1
  have c0 := cell_of_row w1 W.heap.size 0 _ _ _ hr
  have c1 := cell_of_row w1 W.heap.size 1 _ _ _ hr
  simp at c0 c1
  have hB1 : Below W.heap.size W w1 := ((Below.refl _ _).alloc (Nat.le_refl _) _).trans (hb1.mono (by simp))
  have HR1 := Lib.hid hr
  clear hr hb1
  go_wp2_with fail
  refine (HN w1).out.mono ?_
  rintro e w2 ⟨rfl, rfl⟩
  go_wp2_with fail
  refine (HW w1).out.mono ?_
  rintro e w3 ⟨b, rfl, hsg, hb3⟩
  have HSG := Lib.hid (hsg.keep ((Below.refl _ _).alloc (Nat.le_refl w3.heap.size) (.cells M 4)))
  have hbase := hsg.base
  have hblt := hsg.lt
  have HR3 := Lib.hid ((hb3.block _ hlt).trans HR1.out)
  have hz3 := hb3.size
  have hB3 := hB1.trans (hb3.mono (by omega))
  clear hsg hb3 c0 c1
  go_wp2_with fail
  have hm0 := hmk0 w3
  have hg0 : (w3.alloc (.cells M 4)).heap.size = w3.heap.size + 1 := by simp
  have hB4 : Below W.heap.size W (w3.alloc (.cells M 4)) := hB3.alloc (by omega) _
  have HR4 := Lib.hid ((Below.heap_alloc w3 (.cells M 4) W.heap.size (by omega)).trans HR3.out)
  generalize w3.alloc (.cells M 4) = w4 at *
  refine (HL0 w4 _ b HSG.out).out.mono ?_
  rintro e w5 ⟨rfl, hb5⟩
  have hz5 := hb5.size
  have HS5 := Lib.hid (HSG.out.keep hb5)
  have HM5 := Lib.hid (hm0.out.block (hb5.block _ (by omega)))
  have HR5 := Lib.hid ((hb5.block _ (by omega)).trans HR4.out)
  have HB5 := Lib.hid (hB4.trans (hb5.mono (by omega)))
  have hgb : w3.heap.size ≠ b := by omega
  have hbW : W.heap.size ≠ b := by omega
  obtain ⟨g, hg⟩ : ∃ g, g = w3.heap.size := ⟨_, rfl⟩
  have hgW : W.heap.size < g := by omega
  have hbg : b < g := by omega
  rw [← hg] at HM5 hgb ⊢
  obtain ⟨B, hB⟩ : ∃ B, B = w1.heap.size := ⟨_, rfl⟩
  rw [← hB] at HS5
  clear hb5 HSG hm0 HR4 hB4 HR3 hB3 HR1 hB1 hmk hmk0 HL0 HW HN hg hB
  go_wp2_with fail
  go_loopw [8, 9, 10, 11] (fun lf i _ _ wr => ∃ k u : Nat, k ≤ m ∧ k ≤ 40 ∧ u = min k N ∧ i = .int .i64 k ∧ lf = .int .i64 ((N - u : Nat) : Int) ∧ Hid (SignerAt wr B b s h u) ∧ Hid (Marks wr g u) ∧ Hid (wr.heap[W.heap.size]? = some (.cells #[.string s, .int .i64 (h : Int)] 23 (0, 0))) ∧ Below W.heap.size W wr) (fun _ i _ _ _ => 40 - (intOf i).toNat)
  case atStart => exact ⟨0, 0, by omega, by omega, by omega, rfl, rfl, HS5, HM5, HR5, HB5.out⟩
  case round =>
    obtain ⟨k, u, hk, hk40, hu, rfl, rfl, hsig, hmark, hrow, hbel⟩ := hrel
    have HB := Lib.hid hbel
    clear hbel
    have hbz := HB.out.size
    by_cases hrun : k < m ∧ k < 40
    · obtain ⟨hkm, hk4⟩ := hrun
      have n0 : 0 ≤ (k : Int) := by omega
      have n1 : (k : Int) < (m : Int) := by omega
      have n2 : (k : Int) < 40 := by omega
      obtain ⟨ad, rfl⟩ : ∃ ad, A = some ad := by
        cases A with
        | none => have := HT.out.2.2.1 rfl; omega
        | some ad => exact ⟨ad, rfl⟩
      obtain ⟨bt, off, h1, h2⟩ := HT.out.2.2.2 ad rfl
      obtain ⟨rfl, hbl⟩ := h1 (by omega)
      have ct0 := h2 k hkm
      have ct := (HB.out.cell (p := ⟨bt, off + k, none⟩) hbl).trans ct0
      have CT0 := Lib.hid ct0
      generalize xs.getD k ByteArray.empty = t at ct CT0
      clear h1 h2 ct0
      by_cases ht : t.size ≤ 4096
      · have ht' : (t.size : Int) ≤ 4096 := by omega
        by_cases huN : u < N
        · have HUK : Hid (u = k) := Lib.hid (by omega)
          clear hu
          obtain ⟨d, hd⟩ : ∃ d, N - u = d + 1 := ⟨N - u - 1, by omega⟩
          have hd' : N - (u + 1) = d := by omega
          have hdc : ((d + 1 : Nat) : Int) = (d : Int) + 1 := by omega
          have hd32 : (d : Int) ≤ 32 := by omega
          rw [hd, hdc]
          obtain ⟨sg, z, hl, hlz, hz1, hz2, ⟨hpos, hx⟩, hv1, hv2, hv3⟩ := (HF t ht u huN).out
          obtain ⟨sy, hsy⟩ : ∃ y, sg.extract 0 z = y := ⟨_, rfl⟩
          obtain ⟨sw, hsw⟩ : ∃ y, sg ++ ⟨#[120]⟩ = y := ⟨_, rfl⟩
          rw [hsy] at hv2
          rw [hsw] at hv3
          have HS1 := HS t ht
          have HV1 := fun w => Lib.hid (hv1 w)
          have HV2 := fun w => Lib.hid (hv2 w)
          have HV3 := fun w => Lib.hid (hv3 w)
          have hlt2 := hsig.out.lt
          clear hv1 hv2 hv3
          go_wp2_with fail
          refine (HS1 wr _ b u huN hsig.out).out.mono ?_
          rintro e wx ⟨rfl, hsx, hgx⟩
          rw [hl]
          have hgltw := hmark.out.lt
          have hmx := hmark.out.block (hgx.block g hgltw (fun e => hgb (Option.some.inj e)))
          have hrx := (hgx.block W.heap.size (by omega) (fun e => hbW (Option.some.inj e))).trans hrow.out
          have HBX := Lib.hid (below_of_grown HB.out hgx (by omega) hbz)
          have hcg := hmx.cell (u := u) (by omega)
          have hzx := hgx.size
          have hu0 : 0 ≤ (u : Int) := by omega
          have hu256 : (u : Int) < 256 := by omega
          have hlzi : (sg.size : Int) = (z : Int) + 1 := by omega
          have hz1' : 1 ≤ (z : Int) := by omega
          have hz2' : (z : Int) ≤ 1000 := by omega
          have hgu1 : decide ((z : Int) + 1 < 1) = false := decide_eq_false (by omega)
          have hglx : g < wx.heap.size := by omega
          have hwlx : W.heap.size < wx.heap.size := by omega
          have e0 := cell_of_row wx W.heap.size 1 _ _ _ hrx
          simp at e0
          have q0 := fun y : Bel wx.heap.size wx => y.cell hwlx e0
          have q1 := fun y : Bel wx.heap.size wx => y.cell hglx hcg.1
          have q2 := fun y : Bel wx.heap.size wx => y.cell (by omega) ((HBX.out.cell (p := ⟨bt, off + k, none⟩) hbl).trans CT0.out)
          have K1 := fun y : Bel wx.heap.size wx => HL y.w B b (u + 1) (by omega) (hsx.keep y.h)
          rw [hd'] at K1
          have K2 := fun y : Bel wx.heap.size wx => HR y.w B b (u + 1) (hsx.keep y.h)
          have HSX := Lib.hid hsx
          have HMX := Lib.hid hmx
          have HRX := Lib.hid hrx
          clear hsx hmx hrx hgx hcg e0 hsig hmark hrow HS1 HS HZ HL HR HF
          go_wp2_with fail
          refine wp_region_bel wx.heap.size wx (by kernel_rfl) (by kernel_rfl) (Below.refl _ _) ?_
          repeat (go_big_quiet_step (first | (go_at_call_of 26 (Value.string sg); exact calls_bel (Nat.le_refl _) (HV1 _).out) | (go_at_call_of 26 (Value.string sy); exact calls_bel (Nat.le_refl _) (HV2 _).out) | (go_at_call_of 26 (Value.string sw); exact calls_bel (Nat.le_refl _) (HV3 _).out) | (go_at_call 22; exact calls_bel (Nat.le_refl _) (K2 _).out) | (go_at_call 23; exact calls_bel (Nat.le_refl _) (K1 _).out)))
          refine wpQuiet_nil ?_
          rintro _ ⟨y, rfl⟩
          have hmy := HMX.out.block (y.h.block g hglx)
          have hcy := hmy.cell (u := u) (by omega)
          have hcy1 := hcy.1
          have hcy2 := hcy.2
          have HMY := Lib.hid (hmy.set (by omega))
          have hzy := y.h.size
          have HBY := Lib.hid ((HBX.out.trans (y.h.mono (by omega))).setCell (p := ⟨g, u, none⟩) (by show W.heap.size ≤ g; omega) (.bool true))
          have hrs := fun x (hx : x ≠ g) => Below.heap_setCell y.w ⟨g, u, none⟩ (.bool true) x hx
          have HRS := Lib.hid hrs
          have HSY := Lib.hid (HSX.out.keep y.h)
          have HRY := Lib.hid ((y.h.block W.heap.size hwlx).trans HRX.out)
          clear hmy hcy hrs q0 q1 q2 K1 K2
          go_wp2_with fail
          have HSZ := Lib.hid (HSY.out.far (only_setCell (only_of_below (Below.refl y.w.heap.size y.w) (some g)) (p := ⟨g, u, none⟩) (.inl rfl) (.bool true)) (.inr hbg))
          have HRZ := Lib.hid ((HRS.out W.heap.size (by omega)).trans HRY.out)
          exact ⟨⟨k + 1, u + 1, by omega, by omega, by have := HUK.out; omega, by go_num, by rw [hd'], HSZ, HMY, HRZ, HBY.out⟩, by simp [intOf]; omega⟩
        · have huN' : u = N := by omega
          have hd : N - u = 0 := by omega
          rw [hd]
          have HZ1 := HZ t wr B b u huN' hsig.out
          have HU := Lib.hid hu
          have HUN := Lib.hid huN'
          clear hu huN' huN
          go_wp2_with fail
          refine HZ1.out.mono ?_
          rintro e wx ⟨rfl, hbx⟩
          have hsx := hsig.out.keep hbx
          have HBX := Lib.hid (HB.out.trans (hbx.mono hbz))
          have hgltw := hmark.out.lt
          have HMX := Lib.hid (hmark.out.block (hbx.block g hgltw))
          have HRX := Lib.hid ((hbx.block W.heap.size (by omega)).trans hrow.out)
          have K1 := HL wx B b u (by have := HUN.out; omega) hsx
          rw [hd] at K1
          have HSX := Lib.hid hsx
          have hzx := hbx.size
          clear hsx hbx hsig hmark hrow
          go_wp2_with fail
          refine K1.out.mono ?_
          rintro e wy ⟨rfl, hby⟩
          have HSY := Lib.hid (HSX.out.keep hby)
          have HMY := Lib.hid (HMX.out.block (hby.block g (by omega)))
          have HRY := Lib.hid ((hby.block W.heap.size (by omega)).trans HRX.out)
          have HBY := Lib.hid (HBX.out.trans (hby.mono (by omega)))
          clear hby
          go_wp2_with fail
          exact ⟨⟨k + 1, u, by omega, by omega, by have := HU.out; have := HUN.out; omega, by go_num, by rw [hd]; rfl, HSY, HMY, HRY, HBY.out⟩, by simp [intOf]; omega⟩
      · have ht' : (4096 : Int) < (t.size : Int) := by omega
        go_wp2_with fail
        go_ret
        exact ⟨rfl, HB.out⟩
    · by_cases hkm : k < m
      · obtain rfl : k = 40 := by omega
        have n1 : (40 : Int) < (m : Int) := by omega
        go_wp2_with fail
        go_ret
        exact ⟨rfl, HB.out⟩
      · obtain rfl : k = m := by omega
        go_wp2_with fail
        go_ret
        exact ⟨rfl, HB.out⟩

theorem walk (s : ByteArray) (n : Int) (A : Option Addr) (m c : Nat) (ss : List ByteArray) {W : World} (h : IsTexts W A m c ss) (_ : World) :
    Calls Try.prog 7 #[.agg #[.string s, .int .i64 n], .slice A m c] W fun e w' => e = .returned (.bool true) ∧ Below W.heap.size W w' := by
  rcases Nat.lt_or_ge 4096 s.size with h1 | h1
  · exact walk_long s n A m c W h1
  · cases hn : highB n with
    | false => exact walk_no s n A m c W h1 hn
    | true =>
      obtain ⟨k, rfl⟩ := Int.eq_ofNat_of_zero_le ((highB_iff n).1 hn).1
      exact walk_yes s k (by have := ((highB_iff (k : Int)).1 hn).2; omega) A m c _ W h.texts (by
        rcases h with ⟨rfl, rfl, rfl, rfl⟩ | ⟨x, rfl, hl, hm, hz, hc, _⟩
        · decide
        · have hm9 : maxLen = 9223372036854775807 := rfl
          omega) h1

/-! ### The row's step -/
set_option maxRecDepth 100000 in
theorem lifted (os : Os) (started : os.Started) (H : Type) (enc : TypeId × Value → H) :
    ReturnsInHanded {} Try.checked os 7 .any (Rows.groveTakenSpec.pre6 enc Try.prog Try.f7 Rows.groveTakenRow.domain false) (Rows.groveTakenSpec.post enc Try.prog Try.f7 false true false false) := by
  refine returnsInHanded_of_change (C := Try.checked) own started (by kernel_rfl) Try.func7
    (ChangeSpec.witness6 (enc := enc) (C := Try.checked) false ⟨#[], #[.agg #[.string ByteArray.empty, .int .i64 0], .slice none 0 0], []⟩ 8 (by kernel_rfl) (by kernel_rfl) (by kernel_rfl) (by kernel_rfl)) ?_
  intro W base args ds gs before hval0 hW hcnd _
  have hval : ∀ (j : Nat) t v, Try.f7.params[j]? = some t → args[j]? = some v → Value.okWide Try.prog W .any base t v := hval0
  have hW' := hW
  obtain ⟨p, q, hA0, hV, rfl, hfz, hnd⟩ := hW
  have hA : DataW.TrodAll enc Try.prog W 0 (fun _ => true) true Try.f7.params.toList args.toList ds p := hA0
  rw [Try.params7] at hA hval
  obtain ⟨v0, vs0, d0, ds0, p0, q0, hargs, rfl, rfl, h0, r0⟩ := trodAll_cons hA
  obtain ⟨v1, vs1, d1, ds1, p1, q1, rfl, rfl, rfl, h1, r1⟩ := trodAll_cons r0
  obtain ⟨rfl, rfl, rfl⟩ := trodAll_nil r1
  obtain rfl : args = #[v0, v1] := by cases args; simp_all
  obtain ⟨rfl, rfl⟩ := trodVars_none hV
  obtain ⟨s0, n0, rfl⟩ := open_plant (hval 0 23 v0 rfl rfl) h0
  have k0 := h0
  have lt0 : ∀ x ∈ p0, x.block < W.heap.size := by obtain ⟨m, hm⟩ := k0; exact DataW.trod_lt m _ _ _ hm
  obtain ⟨A1, len1, cap1, rfl⟩ := okWide_slice Try.underlying34 (hval 1 34 v1 rfl rfl)
  have k1 := h1
  have lt1 : ∀ x ∈ p1, x.block < W.heap.size := by obtain ⟨m, hm⟩ := k1; exact DataW.trod_lt m _ _ _ hm
  obtain ⟨z1, w1⟩ : ∃ ss, IsTexts W A1 len1 cap1 ss := by
    obtain ⟨fuel, hf⟩ := h1
    rcases open_strings Try.underlying34 Try.underlying9 (by kernel_rfl) hf with ⟨hcs, _⟩ | ⟨x, l, c, ss, hcs, _, hl, hm, hz, _, hcell, hws⟩
    · simp [Value.cells] at hcs
      obtain ⟨rfl, rfl, rfl⟩ := hcs
      exact ⟨[], .inl ⟨rfl, rfl, rfl, rfl⟩⟩
    · simp [Value.cells] at hcs
      obtain ⟨rfl, rfl, rfl⟩ := hcs
      exact ⟨ss, .inr ⟨_, rfl, hl, hm, by simpa using hz, hcell, hws⟩⟩
  clear hA0 hval0
  refine (walk s0 n0 A1 len1 cap1 z1 w1 W).mono fun e W' ⟨he, bel⟩ => ?_
  subst he
  exact ⟨_, rfl, _, _, _, [], _, [], hW', trodAll_mk1 (shut_bool Try.underlying4 _), (trodAll_cons_mk (Below.trod laidOut (by kernel_rfl) (of_decide_eq_true (by kernel_rfl)) k0 bel lt0) (trodAll_cons_mk (Below.trod laidOut (by kernel_rfl) (of_decide_eq_true (by kernel_rfl)) k1 bel lt1) trodAll_mk0)), rfl, bel.frame _, fun h => by cases h⟩

theorem over : Rows.groveTakenRow.holds Try.pinned (OpenSpec.ofChange Rows.groveTakenSpec) :=
  OpenClaim.holds_of_wide 7 Try.f7 rfl rfl rfl rfl rfl rfl rfl ⟨rfl, rfl, rfl, rfl, rfl⟩ rfl rfl rfl rfl rfl (by kernel_rfl) Try.func7 (by kernel_rfl)
    (of_decide_eq_true (by kernel_rfl)) (by unfold Func.isWrapper; first | (rw [if_pos (by decide +kernel)]; kernel_rfl) | (rw [if_neg (by decide +kernel)]; exact ⟨rfl, rfl⟩))
    (fun os started H enc _ => lifted os started H enc)
end GroveTaken
/-- The statement. -/
theorem GroveTaken_holds : Rows.GroveTakenSaid := GroveTaken.over
#print axioms GroveTaken_holds
end Go.Proofs.Ytljnadbfadgglaa
