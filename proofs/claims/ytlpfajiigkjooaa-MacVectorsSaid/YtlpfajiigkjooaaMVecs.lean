/- MacVectors: a vector's tags are those of the reference; the list stays. No condition. -/
import Derived.Test.YtlpfajiigkjooaaVecL
import Derived.Test.YtlpfajiigkjooaaSent
import Derived.SizedLaws
namespace Go.Proofs.Ytlpfajiigkjooaa
open Go.ChangeShapes Go.WideShapes Go.ChangeAt Go.RowKit
open Go.ChangeMaps (open_string shut_string)
set_option linter.unusedVariables false
set_option linter.unusedSimpArgs false

namespace MacVectors

theorem walk_long (s : ByteArray) (f g : Int) (t x : ByteArray) (A : Option Addr) (n c : Nat) (W : World) (h : 4096 < s.size ∨ 4096 < t.size) :
    Calls Try.prog 19 #[.agg #[.string s, .int .i64 f, .int .i64 g, .string t, .string x], .slice A n c] W fun e w' => e = .returned (.bool true) ∧ Below W.heap.size W w' := by
  have HN := fun w : World => Lib.hid (short_no4 s t h w)
  go_enter Try.func19, Try.ntmps19
  go_wp2_with fail
  refine (lives4 _).mono ?_
  rintro e w1 ⟨rfl, hb1⟩
  have hr : w1.heap[W.heap.size]? = some (.cells #[.string s, .int .i64 f, .int .i64 g, .string t, .string x] 54 (0, 0)) := (hb1.block _ (by simp)).trans (heap_alloc_new W _)
  have c0 := cell_of_row w1 W.heap.size 0 _ _ _ hr
  have c3 := cell_of_row w1 W.heap.size 3 _ _ _ hr
  simp at c0 c3
  have hB1 : Below W.heap.size W w1 := ((Below.refl _ _).alloc (Nat.le_refl _) _).trans (hb1.mono (by simp))
  clear hr hb1
  go_wp2_with fail
  refine (HN w1).out.mono ?_
  rintro e w2 ⟨rfl, rfl⟩
  go_wp2_with fail
  refine (lives4 w1).mono ?_
  rintro e w2 ⟨rfl, hb2⟩
  go_wp2_with fail
  go_ret
  exact ⟨rfl, hB1.trans (hb2.mono hB1.size)⟩

theorem ints_own {w : World} {base n m : Nat} {v : Value} {xs ys : List Int} (h : w.ownsRow base 3 1 v m ((xs ++ ys).map (Value.int .i64))) (hn : xs.length = n) (hm : 0 < m) : ∃ b c, v = .slice (some ⟨b, 0, none⟩) m c ∧ base ≤ b ∧ b < w.heap.size ∧ m ≤ c ∧ Ints w (some ⟨b, 0, none⟩) n c xs := by
  have hl : xs.length + ys.length = m := by have := h.1; simpa using this
  obtain ⟨b, c, rfl, hb, hlt⟩ := h.form hm
  have hcm : m ≤ c ∧ c ≤ maxLen := by
    rcases h.2 with ⟨h', _⟩ | ⟨g', cap', cur, h', _, _, hnc, hcm, _⟩
    · simp at h'
    · simp only [Value.slice.injEq, Option.some.injEq, Addr.mk.injEq, and_true, true_and] at h'
      omega
  refine ⟨b, c, rfl, hb, hlt, hcm.1, hn, by omega, hcm.2, (fun e => by cases e), fun ad e => ?_⟩
  cases e
  refine ⟨b, 0, fun _ => ⟨rfl, hlt⟩, fun i hi => ?_⟩
  rw [Nat.zero_add, h.cellAt i (by omega)]
  rw [List.getElem?_map, List.getElem?_append_left (by omega)]
  simp [List.getD_eq_getElem?_getD, show i < xs.length by omega]

set_option maxRecDepth 100000 in
set_option maxHeartbeats 1000000 in
theorem walk_short (s : ByteArray) (f g : Int) (t x : ByteArray) (A : Option Addr) (n c : Nat) (xs : List Int) (W : World) (h : Ints W A n c xs) (hr8 : n * 8 ≤ 140737488351232) (hs : s.size ≤ 4096) (ht : t.size ≤ 4096) :
    Calls Try.prog 19 #[.agg #[.string s, .int .i64 f, .int .i64 g, .string t, .string x], .slice A n c] W fun e w' => e = .returned (.bool true) ∧ Below W.heap.size W w' := by
  have HN := fun w : World => Lib.hid (short_yes4 s t hs ht w)
  have H1 := fun (A : Option Addr) (n c : Nat) (w : World) (h : Ints w A n c xs) => Lib.hid (vector_any s hs f A n c xs t ht w h)
  have H2 := fun (A : Option Addr) (n c : Nat) (w : World) (h : Ints w A n c xs) => Lib.hid (refvector_any s hs f A n c xs t ht w h)
  have hxl := Lib.hid h.1
  have HI := Lib.hid h
  have hnc := h.2.1
  have hn0 : 0 ≤ (n : Int) := by omega
  generalize vecE f xs = E at H1 H2
  generalize tagsOf s f t xs = T at H1 H2
  clear hs ht h
  go_enter Try.func19, Try.ntmps19
  go_wp2_with fail
  refine (lives4 _).mono ?_
  rintro e w1 ⟨rfl, hb1⟩
  have hr : w1.heap[W.heap.size]? = some (.cells #[.string s, .int .i64 f, .int .i64 g, .string t, .string x] 54 (0, 0)) := (hb1.block _ (by simp)).trans (heap_alloc_new W _)
  have hlt : W.heap.size < w1.heap.size := (Array.getElem?_eq_some_iff.1 hr).1
  have HR := Lib.hid hr
  have c0 := cell_of_row w1 W.heap.size 0 _ _ _ hr
  have c3 := cell_of_row w1 W.heap.size 3 _ _ _ hr
  simp at c0 c3
  have hB1 : Below W.heap.size W w1 := ((Below.refl _ _).alloc (Nat.le_refl _) _).trans (hb1.mono (by simp))
  have hI1 := HI.out.keep hB1
  have hz1 := hB1.size
  clear hr hb1
  go_wp2_with fail
  refine (HN w1).out.mono ?_
  rintro e w2 ⟨rfl, rfl⟩
  go_wp2_with (at_builtin; first
    | (refine app_ints rfl (.const (.slice none 0 0)) (.tmp 21) rfl w1 A n c xs hI1 hr8 (by rfl) (by rfl) ?_
       intro v1 w2 hown1 hb2
       have hb1' : Below w1.heap.size w1 w2 := hb2
       have hz2 := hb2.size
       clear hb2)
    | (refine app_lit rfl (.tmp 22) (.tmp 23) 42 3 rfl info_int Try.underlying42 rfl w1 w2 w1.heap.size w1.heap.size (Nat.le_refl _) hz2 hb1' _ _ _ (by rfl) hown1 _ 1 1 (by rfl) (by rfl) (by intro u hu; simp at hu; subst hu; rfl) (by omega) (by unfold maxLen; omega) ?_
       intro v2 w3 hown2 hb3 _ _
       clear hown1 hb1' hz2))
  have hown2' : w3.ownsRow w1.heap.size 3 1 v2 (n + 1) ((xs ++ [-7]).map (Value.int .i64)) := by rw [List.map_append]; exact hown2
  have hxl' := hxl.out
  obtain ⟨bo, co, rfl, hbo, hbl, hcap, hI3⟩ := ints_own (n := n) hown2' hxl' (by omega)
  have hlast : w3.cell? ⟨bo, n, none⟩ = some (.int .i64 (-7)) := by
    rw [hown2'.cellAt n (by omega), List.getElem?_map, List.getElem?_append_right (by omega), hxl', Nat.sub_self]
    rfl
  have HI3 := Lib.hid hI3
  have HL := Lib.hid hlast
  have hz3 := hb3.size
  have hB3 := hB1.trans (hb3.mono hz1)
  have HIa := Lib.hid (HI.out.keep hB3)
  have d0 := (hb3.cell (p := ⟨W.heap.size, 0, none⟩) hlt).trans c0
  have d3 := (hb3.cell (p := ⟨W.heap.size, 3, none⟩) hlt).trans c3
  have d1 := (hb3.cell (p := ⟨W.heap.size, 1, none⟩) hlt).trans (cell_of_row w1 W.heap.size 1 _ _ _ HR.out)
  simp at d1
  have hlt3 : W.heap.size < w3.heap.size := by omega
  have n1 : (n : Int) ≤ (co : Int) := by omega
  have n2 : (n : Int) < (n : Int) + 1 := by omega
  have n3 : IntKind.i64.wrap ((n : Int) + 1) = (n : Int) + 1 := by rw [IntKind.wrap_i64]; omega
  clear hown2 hown2' hI3 hlast hb3 c0 c3 hI1 HR hB1
  go_region_held3 (fun w' => w'.cell? ⟨W.heap.size, 0, none⟩ = some (.string s) ∧ w'.cell? ⟨W.heap.size, 1, none⟩ = some (.int .i64 f) ∧ w'.cell? ⟨W.heap.size, 3, none⟩ = some (.string t))
    (first | exact ⟨d0, d1, d3⟩ | exact ⟨(hb4.cell (p := ⟨W.heap.size, 0, none⟩) hlt3).trans d0, (hb4.cell (p := ⟨W.heap.size, 1, none⟩) hlt3).trans d1, (hb4.cell (p := ⟨W.heap.size, 3, none⟩) hlt3).trans d3⟩)
    ((first | (go_at_call 49; refine (H1 (some ⟨bo, 0, none⟩) n co _ (by exact HI3.out)).out.mono ?_; rintro e w4 ⟨l1, rfl, hV1, hb4⟩)))
  have e0 := (hb4.cell (p := ⟨W.heap.size, 0, none⟩) hlt3).trans d0
  have e1 := (hb4.cell (p := ⟨W.heap.size, 1, none⟩) hlt3).trans d1
  have e3 := (hb4.cell (p := ⟨W.heap.size, 3, none⟩) hlt3).trans d3
  have hB34 : Below w3.heap.size w3 w4 := ((Below.refl w3.heap.size w3).drew).trans hb4
  have hB4 : Below W.heap.size W w4 := hB3.trans (hB34.mono (by omega))
  have hT1 := Lib.hid hV1.tags
  clear d0 d1 d3 hV1 hb4
  go_wp2_with fail
  refine (H2 A n c w4 (HIa.out.keep hB34)).out.mono ?_
  rintro e w5 ⟨l2, rfl, hV2, hb5⟩
  have hT2 := Lib.hid hV2.tags
  have hz4 := hB34.size
  have hz5 := hb5.size
  have hT1' := Lib.hid (hT1.out.keep hb5)
  have hB35 := hB34.trans (hb5.mono hz4)
  clear hV2 e0 e1 e3
  go_wp2_with fail
  refine (sametexts_tags E T l1 l2 w5 hT1'.out hT2.out).mono ?_
  rintro e w6 ⟨rfl, hb6⟩
  have hB36 := hB35.trans (hb6.mono (by omega))
  have hz6 := hb6.size
  go_wp2_with fail
  refine (sameints_any (some ⟨bo, 0, none⟩) A n co c xs w6 (HI3.out.keep hB36) (HIa.out.keep hB36)).mono ?_
  rintro e w7 ⟨rfl, hb7⟩
  have hB37 := hB36.trans (hb7.mono (by omega))
  have c7 := (hB37.cell (p := ⟨bo, n, none⟩) hbl).trans HL.out
  go_wp2_with fail
  go_ret
  exact ⟨rfl, hB3.trans (hB37.mono (by omega))⟩

theorem walk (s : ByteArray) (f g : Int) (t x : ByteArray) (A : Option Addr) (n c : Nat) (zs : List Int) {W : World} (h : IsInts W A n c zs) (hr8 : n * 8 ≤ 140737488351232) (_ : World) :
    Calls Try.prog 19 #[.agg #[.string s, .int .i64 f, .int .i64 g, .string t, .string x], .slice A n c] W fun e w' => e = .returned (.bool true) ∧ Below W.heap.size W w' := by
  rcases Nat.lt_or_ge 4096 s.size with h1 | h1
  · exact walk_long s f g t x A n c W (.inl h1)
  · rcases Nat.lt_or_ge 4096 t.size with h' | h'
    · exact walk_long s f g t x A n c W (.inr h')
    · exact walk_short s f g t x A n c _ W h.ints hr8 h1 h'

/-! ### The row's step -/
set_option maxRecDepth 100000 in
theorem lifted (os : Os) (started : os.Started) (H : Type) (enc : TypeId × Value → H) :
    ReturnsInHanded {} Try.checked os 19 .any (Rows.macVectorsSpec.pre6 enc Try.prog Try.f19 Rows.macVectorsRow.domain false) (Rows.macVectorsSpec.post enc Try.prog Try.f19 false true false false) := by
  refine returnsInHanded_of_change_sized (C := Try.checked) own started (by kernel_rfl) Try.func19
    (ChangeSpec.witness6 (enc := enc) (C := Try.checked) false ⟨#[], #[.agg #[.string ByteArray.empty, .int .i64 0, .int .i64 0, .string ByteArray.empty, .string ByteArray.empty], .slice none 0 0], []⟩ 8 (by kernel_rfl) (by kernel_rfl) (by kernel_rfl) (by kernel_rfl)) ?_
  intro W base args ds gs before hval0 hW hcnd hsz0 _
  have hsz : (DataW.weightsEach Try.prog (Try.f19.params.toList ++ Rows.macVectorsSpec.plain.varTypes Try.prog) (ds ++ gs)).all (· ≤ reachBytes) = true := hsz0
  have hval : ∀ (j : Nat) t v, Try.f19.params[j]? = some t → args[j]? = some v → Value.okWide Try.prog W .any base t v := hval0
  have hW' := hW
  obtain ⟨p, q, hA0, hV, rfl, hfz, hnd⟩ := hW
  have hA : DataW.TrodAll enc Try.prog W 0 (fun _ => true) true Try.f19.params.toList args.toList ds p := hA0
  rw [Try.params19] at hA hval hsz
  obtain ⟨v0, vs0, d0, ds0, p0, q0, hargs, rfl, rfl, h0, r0⟩ := trodAll_cons hA
  obtain ⟨v1, vs1, d1, ds1, p1, q1, rfl, rfl, rfl, h1, r1⟩ := trodAll_cons r0
  obtain ⟨rfl, rfl, rfl⟩ := trodAll_nil r1
  obtain rfl : args = #[v0, v1] := by cases args; simp_all
  obtain ⟨rfl, rfl⟩ := trodVars_none hV
  obtain ⟨s0, f0, g0, t0, x0, rfl⟩ := open_sent (hval 0 54 v0 rfl rfl) h0
  have k0 := h0
  have lt0 : ∀ x ∈ p0, x.block < W.heap.size := by obtain ⟨m, hm⟩ := k0; exact DataW.trod_lt m _ _ _ hm
  obtain ⟨A1, len1, cap1, rfl⟩ := okWide_slice Try.underlying42 (hval 1 42 v1 rfl rfl)
  have k1 := h1
  have lt1 : ∀ x ∈ p1, x.block < W.heap.size := by obtain ⟨m, hm⟩ := k1; exact DataW.trod_lt m _ _ _ hm
  obtain ⟨z1, w1, r1⟩ : ∃ zs, IsInts W A1 len1 cap1 zs ∧ len1 * 8 ≤ 140737488351232 := by
    obtain ⟨fuel, hf⟩ := h1
    rcases open_ints Try.underlying42 Try.underlying3 (by kernel_rfl) hf with ⟨hcs, _⟩ | ⟨x, l, c, zs, hcs, _, hl, hm, hz, hx, hcell, hwz⟩
    · simp [Value.cells] at hcs
      obtain ⟨rfl, rfl, rfl⟩ := hcs
      exact ⟨[], .inl ⟨rfl, rfl, rfl, rfl⟩, by omega⟩
    · simp [Value.cells] at hcs
      obtain ⟨rfl, rfl, rfl⟩ := hcs
      simp only [Prod.mk.injEq] at hx
      obtain ⟨rfl, rfl⟩ := hx
      have hz' : zs.length = cap1 := by simpa using hz
      refine ⟨zs, .inr ⟨_, rfl, hl, hm, hz', hcell, hwz⟩, ?_⟩
      have := sized_slice hsz (j := 1) (t := 42) (e := 3) rfl rfl Try.underlying42
      rw [show Try.prog.bytesOf 3 = 8 by kernel_rfl] at this
      simp only [lits, List.length_map, List.length_take, List.length_drop, reachBytes] at this
      omega
  clear hA0 hval0
  refine (walk s0 f0 g0 t0 x0 A1 len1 cap1 z1 w1 r1 W).mono fun e W' ⟨he, bel⟩ => ?_
  subst he
  exact ⟨_, rfl, _, _, _, [], _, [], hW', trodAll_mk1 (shut_bool Try.underlying4 _), (trodAll_cons_mk (Below.trod laidOut (by kernel_rfl) (of_decide_eq_true (by kernel_rfl)) k0 bel lt0) (trodAll_cons_mk (Below.trod laidOut (by kernel_rfl) (of_decide_eq_true (by kernel_rfl)) k1 bel lt1) trodAll_mk0)), rfl, bel.frame _, fun h => by cases h⟩

theorem over : Rows.macVectorsRow.holds Try.pinned (OpenSpec.ofChange Rows.macVectorsSpec) :=
  OpenClaim.holds_of_wide 19 Try.f19 rfl rfl rfl rfl rfl rfl rfl ⟨rfl, rfl, rfl, rfl, rfl⟩ rfl rfl rfl rfl rfl (by kernel_rfl) Try.func19 (by kernel_rfl)
    (of_decide_eq_true (by kernel_rfl)) (by unfold Func.isWrapper; first | (rw [if_pos (by decide +kernel)]; kernel_rfl) | (rw [if_neg (by decide +kernel)]; exact ⟨rfl, rfl⟩))
    (fun os started H enc _ => lifted os started H enc)
end MacVectors
/-- The statement. -/
theorem MacVectors_holds : Rows.MacVectorsSaid := MacVectors.over
#print axioms MacVectors_holds
end Go.Proofs.Ytlpfajiigkjooaa
