/- MacTaken: each tag is taken by the one for whom it is, a longer or a shorter one isn't. No condition. -/
import Derived.Test.YtlpfajiigkjooaaVecL
import Derived.Test.YtlpfajiigkjooaaSent
namespace Go.Proofs.Ytlpfajiigkjooaa
open Go.ChangeShapes Go.WideShapes Go.ChangeAt Go.RowKit
open Go.ChangeMaps (open_string shut_string)
set_option linter.unusedVariables false
set_option linter.unusedSimpArgs false

namespace MacTaken

theorem walk_long (s : ByteArray) (f g : Int) (t x : ByteArray) (A : Option Addr) (n c : Nat) (W : World) (h : 4096 < s.size ∨ 4096 < t.size) :
    Calls Try.prog 20 #[.agg #[.string s, .int .i64 f, .int .i64 g, .string t, .string x], .slice A n c] W fun e w' => e = .returned (.bool true) ∧ Below W.heap.size W w' := by
  have HN := fun w : World => Lib.hid (short_no4 s t h w)
  go_enter Try.func20, Try.ntmps20
  go_wp2_with fail
  refine (lives4 _).mono ?_
  rintro e w1 ⟨rfl, hb1⟩
  have hr : w1.heap[W.heap.size]? = some (.cells #[.string s, .int .i64 f, .int .i64 g, .string t, .string x] 54 (0, 0)) := (hb1.block _ (by simp)).trans (heap_alloc_new W _)
  have c0 := cell_of_row w1 W.heap.size 0 _ _ _ hr
  have c3 := cell_of_row w1 W.heap.size 3 _ _ _ hr
  simp at c0 c3
  have hB1 : Below W.heap.size W w1 := ((Below.refl _ _).alloc (Nat.le_refl _) _).trans (hb1.mono (by simp))
  clear hr hb1
  go_wp2_with fail
  refine (HN w1).out.mono ?_
  rintro e w2 ⟨rfl, rfl⟩
  go_wp2_with fail
  refine (lives4 w1).mono ?_
  rintro e w2 ⟨rfl, hb2⟩
  go_wp2_with fail
  go_ret
  exact ⟨rfl, hB1.trans (hb2.mono hB1.size)⟩


theorem size_ne {a b : ByteArray} (h : a.size ≠ b.size) : (a.toList == b.toList) = false := by
  rw [beq_eq_false_iff_ne]
  intro e
  apply h
  have h1 : a.data.toList = b.data.toList := by rw [← ByteArray.toList_eq, ← ByteArray.toList_eq]; exact e
  have h2 := congrArg List.length h1
  rwa [data_length, data_length] at h2

/-- Each tag is taken, a longer one and a shorter one aren't. -/
theorem checks (s : ByteArray) (hs : s.size ≤ 4096) (f : Int) (t : ByteArray) (ht : t.size ≤ 4096) (xs : List Int) (hE : vecE f xs = 0) (k : Nat) (hk : k < xs.length) (T : ByteArray) (hT : (tagsOf s f t xs).getD k ByteArray.empty = T) : T.size = 8 ∧
    (∀ w, Calls Try.prog 47 #[.string s, .int .i64 f, .int .i64 (xs.getD k 0), .string t, .string T] w fun e w' => e = .returned (.bool true) ∧ Below w.heap.size w w') ∧
    (∀ w, Calls Try.prog 47 #[.string s, .int .i64 f, .int .i64 (xs.getD k 0), .string t, .string (T ++ ⟨#[120]⟩)] w fun e w' => e = .returned (.bool false) ∧ Below w.heap.size w w') ∧
    (∀ w, Calls Try.prog 47 #[.string s, .int .i64 f, .int .i64 (xs.getD k 0), .string t, .string (T.extract 0 7)] w fun e w' => e = .returned (.bool false) ∧ Below w.heap.size w w') := by
  have hr : nodeB f = true ∧ xs.all nodeB = true := by
    unfold vecE at hE
    by_cases hc : (nodeB f && xs.all nodeB) = true
    · simpa using hc
    · rw [if_neg hc] at hE; cases hE
  have hy := (nodeB_iff _).1 (all_at xs k hk hr.2)
  have hf := (nodeB_iff f).1 hr.1
  obtain ⟨fn, rfl⟩ := Int.eq_ofNat_of_zero_le hf.1
  obtain ⟨y, hye⟩ := Int.eq_ofNat_of_zero_le hy.1
  rw [hye] at hy ⊢
  have hT' : T = tagK s fn y t := by
    rw [← hT]
    unfold tagsOf
    have : xs[k]? = some (xs.getD k 0) := by simp [List.getD_eq_getElem?_getD, hk]
    rw [List.getD_eq_getElem?_getD, List.getElem?_map, this, hye]
    rfl
  subst hT'
  have hz := tagK_size s fn y t
  have hC := fun given w => check_yes s hs fn y (by omega) (by omega) t ht given w
  refine ⟨hz, fun w => ?_, fun w => ?_, fun w => ?_⟩
  · have := hC (tagK s fn y t) w; rwa [beq_self_eq_true] at this
  · have := hC (tagK s fn y t ++ ⟨#[120]⟩) w; rwa [size_ne (by rw [ByteArray.size_append, hz]; decide)] at this
  · have := hC ((tagK s fn y t).extract 0 7) w; rwa [size_ne (by rw [ByteArray.size_extract, hz]; decide)] at this

set_option maxRecDepth 100000 in
set_option maxHeartbeats 1000000 in
theorem walk_short (s : ByteArray) (f g : Int) (t x : ByteArray) (A : Option Addr) (n c : Nat) (xs : List Int) (W : World) (h : Ints W A n c xs) (hs : s.size ≤ 4096) (ht : t.size ≤ 4096) :
    Calls Try.prog 20 #[.agg #[.string s, .int .i64 f, .int .i64 g, .string t, .string x], .slice A n c] W fun e w' => e = .returned (.bool true) ∧ Below W.heap.size W w' := by
  have HN := fun w : World => Lib.hid (short_yes4 s t hs ht w)
  have H1 := fun (A : Option Addr) (n c : Nat) (w : World) (h : Ints w A n c xs) => Lib.hid (vector_any s hs f A n c xs t ht w h)
  have HC := fun (hE : vecE f xs = 0) (k : Nat) (hk : k < xs.length) (T : ByteArray) (hT : (tagsOf s f t xs).getD k ByteArray.empty = T) => Lib.hid (checks s hs f t ht xs hE k hk T hT)
  have hxl := Lib.hid h.1
  have hTl : Hid ((tagsOf s f t xs).length = n) := Lib.hid (by unfold tagsOf; rw [List.length_map]; exact h.1)
  have HI := Lib.hid h
  have hnc := h.2.1
  have hn63 : n ≤ 9223372036854775807 := Nat.le_trans h.2.1 h.2.2.1
  have hn0 : 0 ≤ (n : Int) := by omega
  generalize vecE f xs = E at H1 HC
  obtain ⟨T, hTT⟩ : ∃ T, T = tagsOf s f t xs := ⟨_, rfl⟩
  rw [← hTT] at H1 HC hTl
  clear hs ht h hTT
  go_enter Try.func20, Try.ntmps20
  go_wp2_with fail
  refine (lives4 _).mono ?_
  rintro e w1 ⟨rfl, hb1⟩
  have hr : w1.heap[W.heap.size]? = some (.cells #[.string s, .int .i64 f, .int .i64 g, .string t, .string x] 54 (0, 0)) := (hb1.block _ (by simp)).trans (heap_alloc_new W _)
  have hlt : W.heap.size < w1.heap.size := (Array.getElem?_eq_some_iff.1 hr).1
  have c0 := cell_of_row w1 W.heap.size 0 _ _ _ hr
  have c1 := cell_of_row w1 W.heap.size 1 _ _ _ hr
  have c3 := cell_of_row w1 W.heap.size 3 _ _ _ hr
  simp at c0 c1 c3
  have hB1 : Below W.heap.size W w1 := ((Below.refl _ _).alloc (Nat.le_refl _) _).trans (hb1.mono (by simp))
  have hI1 := Lib.hid (HI.out.keep hB1)
  have hz1 := hB1.size
  clear hr hb1
  go_wp2_with fail
  refine (HN w1).out.mono ?_
  rintro e w2 ⟨rfl, rfl⟩
  go_wp2_with fail
  refine (H1 A n c w1 hI1.out).out.mono ?_
  rintro e w4 ⟨l1, rfl, hV, hb4⟩
  have hT := hV.tags
  have hB4 := hB1.trans (hb4.mono hz1)
  have HI4 := Lib.hid (hI1.out.keep hb4)
  have hz4 := hb4.size
  have d0 := Lib.hid ((hb4.cell (p := ⟨W.heap.size, 0, none⟩) hlt).trans c0)
  have d1 := Lib.hid ((hb4.cell (p := ⟨W.heap.size, 1, none⟩) hlt).trans c1)
  have d3 := Lib.hid ((hb4.cell (p := ⟨W.heap.size, 3, none⟩) hlt).trans c3)
  obtain ⟨B, m, d, rfl, hmd, hm16, hmE, hmc⟩ := hT
  have Hmc := Lib.hid hmc
  have hlt4 : W.heap.size < w4.heap.size := by omega
  clear hV hb4 c0 c1 c3 hmc
  by_cases hE : E = 0
  · subst hE
    rw [if_pos rfl, hTl.out] at hmE
    subst hmE
    have HCk := HC rfl
    clear HC H1 HN
    go_wp2_with fail
    go_loopw [7] (fun i wr => ∃ k : Nat, k ≤ m ∧ i = .int .i64 k ∧ Below w4.heap.size w4 wr) (fun i _ => m - (intOf i).toNat)
    case atStart => exact ⟨0, by omega, rfl, Below.refl _ _⟩
    case round =>
      obtain ⟨k, hk, rfl, hbel⟩ := hrel
      have hz := hbel.size
      by_cases hkm : k < m
      · have n0 : 0 ≤ (k : Int) := by omega
        have n1 : (k : Int) < (m : Int) := by omega
        obtain ⟨b, off, rfl, hbl, hcs⟩ := HI4.out.at k hkm
        obtain ⟨gg, rfl, hgl, hts⟩ := Hmc.out (by omega)
        have hct := fun y : Bel wr.heap.size wr => y.cell (Nat.lt_of_lt_of_le hgl hz) ((hbel.cell (p := ⟨gg, k, none⟩) hgl).trans (hts k hkm))
        have hci := fun y : Bel wr.heap.size wr => y.cell (Nat.lt_of_lt_of_le hbl hz) ((hbel.cell (p := ⟨b, off + k, none⟩) hbl).trans (hcs k hkm))
        obtain ⟨hT8, k1, k2, k3⟩ := (HCk k (by rw [hxl.out]; exact hkm) _ rfl).out
        have e0 := fun y : Bel wr.heap.size wr => y.cell (by omega) ((hbel.cell (p := ⟨W.heap.size, 0, none⟩) (by exact hlt4)).trans d0.out)
        have e1 := fun y : Bel wr.heap.size wr => y.cell (by omega) ((hbel.cell (p := ⟨W.heap.size, 1, none⟩) (by exact hlt4)).trans d1.out)
        have e3 := fun y : Bel wr.heap.size wr => y.cell (by omega) ((hbel.cell (p := ⟨W.heap.size, 3, none⟩) (by exact hlt4)).trans d3.out)
        have K1 := fun w : World => Lib.hid (k1 w)
        have K2 := fun w : World => Lib.hid (k2 w)
        have K3 := fun w : World => Lib.hid (k3 w)
        clear k1 k2 k3 hcs hts
        generalize T.getD k ByteArray.empty = Tk at *
        generalize xs.getD k 0 = y at *
        have HB := Lib.hid hbel
        clear hbel
        go_wp2_with fail
        refine wp_region_bel wr.heap.size wr (by kernel_rfl) (by kernel_rfl) (Below.refl _ _) ?_
        repeat (go_big_quiet_step (first | (go_at_call_of 47 (Value.string Tk); exact calls_bel (Nat.le_refl _) (K1 _).out) | (go_at_call_of 47 (Value.string (Tk.extract 0 7)); exact calls_bel (Nat.le_refl _) (K3 _).out) | (go_at_call 47; exact calls_bel (Nat.le_refl _) (K2 _).out)))
        refine wpQuiet_nil ?_
        rintro _ ⟨z, rfl⟩
        go_wp2_with fail
        exact ⟨⟨k + 1, by omega, by go_num, HB.out.trans (z.h.mono hz)⟩, by simp [intOf]; omega⟩
      · obtain rfl : k = m := by omega
        go_wp2_with fail
        go_ret
        exact ⟨rfl, hB4.trans (hbel.mono (by omega))⟩
  · rw [if_neg hE] at hmE
    subst hmE
    have hE' : ¬ E = 0 := hE
    go_wp2_with fail
    go_ret
    exact ⟨rfl, hB4⟩

theorem walk (s : ByteArray) (f g : Int) (t x : ByteArray) (A : Option Addr) (n c : Nat) (zs : List Int) {W : World} (h : IsInts W A n c zs) (_ : World) :
    Calls Try.prog 20 #[.agg #[.string s, .int .i64 f, .int .i64 g, .string t, .string x], .slice A n c] W fun e w' => e = .returned (.bool true) ∧ Below W.heap.size W w' := by
  rcases Nat.lt_or_ge 4096 s.size with h1 | h1
  · exact walk_long s f g t x A n c W (.inl h1)
  · rcases Nat.lt_or_ge 4096 t.size with h' | h'
    · exact walk_long s f g t x A n c W (.inr h')
    · exact walk_short s f g t x A n c _ W h.ints h1 h'

/-! ### The row's step -/
set_option maxRecDepth 100000 in
theorem lifted (os : Os) (started : os.Started) (H : Type) (enc : TypeId × Value → H) :
    ReturnsInHanded {} Try.checked os 20 .any (Rows.macTakenSpec.pre6 enc Try.prog Try.f20 Rows.macTakenRow.domain false) (Rows.macTakenSpec.post enc Try.prog Try.f20 false true false false) := by
  refine returnsInHanded_of_change (C := Try.checked) own started (by kernel_rfl) Try.func20
    (ChangeSpec.witness6 (enc := enc) (C := Try.checked) false ⟨#[], #[.agg #[.string ByteArray.empty, .int .i64 0, .int .i64 0, .string ByteArray.empty, .string ByteArray.empty], .slice none 0 0], []⟩ 8 (by kernel_rfl) (by kernel_rfl) (by kernel_rfl) (by kernel_rfl)) ?_
  intro W base args ds gs before hval0 hW hcnd _
  have hval : ∀ (j : Nat) t v, Try.f20.params[j]? = some t → args[j]? = some v → Value.okWide Try.prog W .any base t v := hval0
  have hW' := hW
  obtain ⟨p, q, hA0, hV, rfl, hfz, hnd⟩ := hW
  have hA : DataW.TrodAll enc Try.prog W 0 (fun _ => true) true Try.f20.params.toList args.toList ds p := hA0
  rw [Try.params20] at hA hval
  obtain ⟨v0, vs0, d0, ds0, p0, q0, hargs, rfl, rfl, h0, r0⟩ := trodAll_cons hA
  obtain ⟨v1, vs1, d1, ds1, p1, q1, rfl, rfl, rfl, h1, r1⟩ := trodAll_cons r0
  obtain ⟨rfl, rfl, rfl⟩ := trodAll_nil r1
  obtain rfl : args = #[v0, v1] := by cases args; simp_all
  obtain ⟨rfl, rfl⟩ := trodVars_none hV
  obtain ⟨s0, f0, g0, t0, x0, rfl⟩ := open_sent (hval 0 54 v0 rfl rfl) h0
  have k0 := h0
  have lt0 : ∀ x ∈ p0, x.block < W.heap.size := by obtain ⟨m, hm⟩ := k0; exact DataW.trod_lt m _ _ _ hm
  obtain ⟨A1, len1, cap1, rfl⟩ := okWide_slice Try.underlying42 (hval 1 42 v1 rfl rfl)
  have k1 := h1
  have lt1 : ∀ x ∈ p1, x.block < W.heap.size := by obtain ⟨m, hm⟩ := k1; exact DataW.trod_lt m _ _ _ hm
  obtain ⟨z1, w1⟩ : ∃ zs, IsInts W A1 len1 cap1 zs := by
    obtain ⟨fuel, hf⟩ := h1
    rcases open_ints Try.underlying42 Try.underlying3 (by kernel_rfl) hf with ⟨hcs, _⟩ | ⟨x, l, c, zs, hcs, _, hl, hm, hz, _, hcell, hwz⟩
    · simp [Value.cells] at hcs
      obtain ⟨rfl, rfl, rfl⟩ := hcs
      exact ⟨[], .inl ⟨rfl, rfl, rfl, rfl⟩⟩
    · simp [Value.cells] at hcs
      obtain ⟨rfl, rfl, rfl⟩ := hcs
      exact ⟨zs, .inr ⟨_, rfl, hl, hm, by simpa using hz, hcell, hwz⟩⟩
  clear hA0 hval0
  refine (walk s0 f0 g0 t0 x0 A1 len1 cap1 z1 w1 W).mono fun e W' ⟨he, bel⟩ => ?_
  subst he
  exact ⟨_, rfl, _, _, _, [], _, [], hW', trodAll_mk1 (shut_bool Try.underlying4 _), (trodAll_cons_mk (Below.trod laidOut (by kernel_rfl) (of_decide_eq_true (by kernel_rfl)) k0 bel lt0) (trodAll_cons_mk (Below.trod laidOut (by kernel_rfl) (of_decide_eq_true (by kernel_rfl)) k1 bel lt1) trodAll_mk0)), rfl, bel.frame _, fun h => by cases h⟩

theorem over : Rows.macTakenRow.holds Try.pinned (OpenSpec.ofChange Rows.macTakenSpec) :=
  OpenClaim.holds_of_wide 20 Try.f20 rfl rfl rfl rfl rfl rfl rfl ⟨rfl, rfl, rfl, rfl, rfl⟩ rfl rfl rfl rfl rfl (by kernel_rfl) Try.func20 (by kernel_rfl)
    (of_decide_eq_true (by kernel_rfl)) (by unfold Func.isWrapper; first | (rw [if_pos (by decide +kernel)]; kernel_rfl) | (rw [if_neg (by decide +kernel)]; exact ⟨rfl, rfl⟩))
    (fun os started H enc _ => lifted os started H enc)
end MacTaken
/-- The statement. -/
theorem MacTaken_holds : Rows.MacTakenSaid := MacTaken.over
#print axioms MacTaken_holds
end Go.Proofs.Ytlpfajiigkjooaa
