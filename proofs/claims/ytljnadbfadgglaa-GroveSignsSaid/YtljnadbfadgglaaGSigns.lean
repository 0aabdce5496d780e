/- GroveSigns: each signature is the reference's; the leaves left are counted. No condition.  -/
import Derived.Test.YtljnadbfadgglaaGFar
import Derived.Test.YtljnadbfadgglaaPlant
import Derived.Test.YtljnadbfadgglaaRefSg
import Derived.Test.YtljnadbfadgglaaJoin
namespace Go.Proofs.Ytljnadbfadgglaa
open Go.ChangeShapes Go.WideShapes Go.ChangeAt Go.RowKit
open Go.ChangeMaps (open_string shut_string)
set_option maxRecDepth 100000
set_option linter.unusedVariables false
set_option linter.unusedSimpArgs false

namespace GroveSigns

theorem TextsAt.far {w w' : World} {g n x : Nat} {f : Nat → ByteArray} (h : TextsAt w g n f) (hg : w.grownBy w' (some x)) (hx : g ≠ x) : TextsAt w' g n f :=
  ⟨Nat.lt_of_lt_of_le h.1 hg.size, fun i hi => (hg.cell_far ⟨g, i, none⟩ h.1 (fun e => hx (Option.some.inj e))).trans (h.2 i hi)⟩

theorem walk_long (s : ByteArray) (f : Int) (A : Option Addr) (m c : Nat) (W : World) (h : 4096 < s.size) :
    Calls Try.prog 4 #[.agg #[.string s, .int .i64 f], .slice A m c] W fun e w' => e = .returned (.bool true) ∧ Below W.heap.size W w' := by
  have HN := fun w : World => Lib.hid (short_no6 s h w)
  go_enter Try.func4, Try.ntmps4
  go_wp2_with fail
  refine (lives6 _).mono ?_
  rintro e w1 ⟨rfl, hb1⟩
  have hr : w1.heap[W.heap.size]? = some (.cells #[.string s, .int .i64 f] 23 (0, 0)) := (hb1.block _ (by simp)).trans (heap_alloc_new W _)
  have c0 := cell_of_row w1 W.heap.size 0 _ _ _ hr
  simp at c0
  have hB1 : Below W.heap.size W w1 := ((Below.refl _ _).alloc (Nat.le_refl _) _).trans (hb1.mono (by simp))
  clear hr hb1
  go_wp2_with fail
  refine (HN w1).out.mono ?_
  rintro e w2 ⟨rfl, rfl⟩
  go_wp2_with fail
  refine (lives6 w1).mono ?_
  rintro e w2 ⟨rfl, hb2⟩
  go_wp2_with fail
  go_ret
  exact ⟨rfl, hB1.trans (hb2.mono hB1.size)⟩

theorem walk_no (s : ByteArray) (f : Int) (A : Option Addr) (m c : Nat) (W : World) (h : s.size ≤ 4096) (hn : highB f = false) :
    Calls Try.prog 4 #[.agg #[.string s, .int .i64 f], .slice A m c] W fun e w' => e = .returned (.bool true) ∧ Below W.heap.size W w' := by
  have HN := fun w : World => Lib.hid (short_yes6 s h w)
  have H2 := fun w : World => Lib.hid (new_no s f hn w)
  have H3 := fun w : World => Lib.hid (right_u f w)
  have hE : errH f = 1 := by unfold errH; rw [hn]; rfl
  rw [hE] at H3
  clear h hE
  go_enter Try.func4, Try.ntmps4
  go_wp2_with fail
  refine (lives6 _).mono ?_
  rintro e w1 ⟨rfl, hb1⟩
  have hr : w1.heap[W.heap.size]? = some (.cells #[.string s, .int .i64 f] 23 (0, 0)) := (hb1.block _ (by simp)).trans (heap_alloc_new W _)
  have c0 := cell_of_row w1 W.heap.size 0 _ _ _ hr
  have c1 := cell_of_row w1 W.heap.size 1 _ _ _ hr
  simp at c0 c1
  have hB1 : Below W.heap.size W w1 := ((Below.refl _ _).alloc (Nat.le_refl _) _).trans (hb1.mono (by simp))
  clear hr hb1
  go_wp2_with fail
  refine (HN w1).out.mono ?_
  rintro e w2 ⟨rfl, rfl⟩
  go_wp2_with fail
  refine (H2 w1).out.mono ?_
  rintro e w2 ⟨rfl, rfl⟩
  go_wp2_with fail
  refine (H3 w1).out.mono ?_
  rintro e w2 ⟨rfl, rfl⟩
  go_wp2_with fail
  refine (H3 w1).out.mono ?_
  rintro e w2 ⟨rfl, rfl⟩
  go_wp2_with fail
  go_ret
  exact ⟨rfl, hB1⟩

set_option maxHeartbeats 2000000 in
theorem walk_yes (s : ByteArray) (h : Nat) (hh : h ≤ 5) (A : Option Addr) (m c : Nat) (xs : List ByteArray) (W : World) (hT : Texts W A m c xs) (hm63 : m ≤ 9223372036854775807) (hs : s.size ≤ 4096) :
    Calls Try.prog 4 #[.agg #[.string s, .int .i64 (h : Int)], .slice A m c] W fun e w' => e = .returned (.bool true) ∧ Below W.heap.size W w' := by
  have hp := pow_int h hh
  obtain ⟨N, hN⟩ : ∃ N, N = 2 ^ h := ⟨_, rfl⟩
  have HN := fun w : World => Lib.hid (short_yes6 s hs w)
  have HW := fun w : World => Lib.hid (new_yes s hs h hh w)
  have H3 := fun w : World => Lib.hid (right_u (h : Int) w)
  have hE : errH (h : Int) = 0 := by unfold errH; rw [(highB_iff _).2 ⟨by omega, by omega⟩]; rfl
  rw [hE] at H3
  have H4 := fun w : World => Lib.hid (leaves_any s hs h hh w)
  rw [← hN] at H4
  have HL := fun (w : World) (B b u : Nat) (hu : u ≤ N) (hx : SignerAt w B b s h u) => Lib.hid (sleft_yes hh (by rw [← hN]; exact hu) hx)
  rw [← hN] at HL
  have HS := fun (t : ByteArray) (ht : t.size ≤ 4096) (w : World) (B b u : Nat) (hu : u < N) (hx : SignerAt w B b s h u) => Lib.hid (ssign_yes t ht hs hh (by rw [← hN]; exact hu) hx)
  have HZ := fun (t : ByteArray) (w : World) (B b u : Nat) (hu : u = N) (hx : SignerAt w B b s h u) => Lib.hid (ssign_spent t hh (by rw [← hN]; exact hu) hx)
  have HG := fun (t : ByteArray) (ht : t.size ≤ 4096) (k : Nat) (hk : k < N) (g c : Nat) (w : World) (hta : TextsAt w g (2 ^ h) (fun n => pubK s n)) => Lib.hid (refsg_any s hs h hh k (by rw [← hN]; exact hk) t ht g c w hta)
  rw [← hN] at HG
  have HT := Lib.hid hT
  have hN32 : N ≤ 32 := by rw [hN]; exact hp.1
  clear hp hN hT hs hE
  go_enter Try.func4, Try.ntmps4
  go_wp2_with fail
  refine (lives6 _).mono ?_
  rintro e w1 ⟨rfl, hb1⟩
  have hr : w1.heap[W.heap.size]? = some (.cells #[.string s, .int .i64 (h : Int)] 23 (0, 0)) := (hb1.block _ (by simp)).trans (heap_alloc_new W _)
  have hlt : W.heap.size < w1.heap.size := (Array.getElem?_eq_some_iff.1 hr).1
  have c0 := cell_of_row w1 W.heap.size 0 _ _ _ hr
  have c1 := cell_of_row w1 W.heap.size 1 _ _ _ hr
  simp at c0 c1
  have hB1 : Below W.heap.size W w1 := ((Below.refl _ _).alloc (Nat.le_refl _) _).trans (hb1.mono (by simp))
  have HR1 := Lib.hid hr
  clear hr hb1
  go_wp2_with fail
  refine (HN w1).out.mono ?_
  rintro e w2 ⟨rfl, rfl⟩
  go_wp2_with fail
  refine (HW w1).out.mono ?_
  rintro e w3 ⟨b, rfl, hsg, hb3⟩
  have HSG := Lib.hid hsg
  have hbase := hsg.base
  have hblt := hsg.lt
  have HR3 := Lib.hid ((hb3.block _ hlt).trans HR1.out)
  have hz3 := hb3.size
  have HB3 := Lib.hid (hB1.trans (hb3.mono (by omega)))
  clear hsg hb3 c0 c1 hB1
  have c0 := cell_of_row w3 W.heap.size 0 _ _ _ HR3.out
  have c1 := cell_of_row w3 W.heap.size 1 _ _ _ HR3.out
  simp at c0 c1
  go_wp2_with fail
  refine (H3 w3).out.mono ?_
  rintro e w2 ⟨rfl, rfl⟩
  go_wp2_with fail
  refine (H4 w3).out.mono ?_
  rintro e w5 ⟨g, cl, rfl, hgl, hta, hb5⟩
  have hz5 := hb5.size
  have HS5 := Lib.hid (HSG.out.keep hb5)
  have HTA5 := Lib.hid hta
  have HR5 := Lib.hid ((hb5.block _ (by omega)).trans HR3.out)
  have HB5 := Lib.hid (HB3.out.trans (hb5.mono (by omega)))
  have hgb : g ≠ b := by omega
  have hbW : W.heap.size ≠ b := by omega
  have hWb : W.heap.size < b := by omega
  obtain ⟨B, hB⟩ : ∃ B, B = w1.heap.size := ⟨_, rfl⟩
  rw [← hB] at HS5
  clear hb5 hta HSG HR3 HB3 HR1 HW HN H3 H4 hB c0 c1
  go_wp2_with fail
  go_loopw [8, 9, 10] (fun i _ _ wr => ∃ k u : Nat, k ≤ m ∧ k ≤ 40 ∧ Hid (u = min k N) ∧ i = .int .i64 k ∧ Hid (SignerAt wr B b s h u) ∧ Hid (TextsAt wr g N (fun n => pubK s n)) ∧ Hid (wr.heap[W.heap.size]? = some (.cells #[.string s, .int .i64 (h : Int)] 23 (0, 0))) ∧ Below W.heap.size W wr) (fun i _ _ _ => 40 - (intOf i).toNat)
  case atStart => exact ⟨0, 0, by omega, by omega, Lib.hid (by omega), rfl, HS5, HTA5, HR5, HB5.out⟩
  case round =>
    obtain ⟨k, u, hk, hk40, HU, rfl, hsig, hta, hrow, hbel⟩ := hrel
    have HB := Lib.hid hbel
    clear hbel
    have hbz := HB.out.size
    have hdu : Hid (((N - u : Nat) : Int) = max ((N : Int) - (k : Int)) 0) := Lib.hid (by have := HU.out; omega)
    have K0 := HL wr B b u (by have := HU.out; omega) hsig.out
    by_cases hrun : k < m ∧ k < 40
    · obtain ⟨hkm, hk4⟩ := hrun
      have n0 : 0 ≤ (k : Int) := by omega
      have n1 : (k : Int) < (m : Int) := by omega
      have n2 : (k : Int) < 40 := by omega
      obtain ⟨ad, rfl⟩ : ∃ ad, A = some ad := by
        cases A with
        | none => have := HT.out.2.2.1 rfl; omega
        | some ad => exact ⟨ad, rfl⟩
      obtain ⟨bt, off, h1, h2⟩ := HT.out.2.2.2 ad rfl
      obtain ⟨rfl, hbl⟩ := h1 (by omega)
      have ct0 := h2 k hkm
      have ct := (HB.out.cell (p := ⟨bt, off + k, none⟩) hbl).trans ct0
      have CT0 := Lib.hid ct0
      generalize xs.getD k ByteArray.empty = t at ct CT0
      clear h1 h2 ct0
      by_cases ht : t.size ≤ 4096
      · have ht' : (t.size : Int) ≤ 4096 := by omega
        go_wp2_with fail
        refine K0.out.mono ?_
        rintro e wy ⟨rfl, hby⟩
        rw [hdu.out]
        have HSY := Lib.hid (hsig.out.keep hby)
        have HTY := Lib.hid (hta.out.keep hby)
        have HRY := Lib.hid ((hby.block W.heap.size (by have := hsig.out.lt; omega)).trans hrow.out)
        have HBY := Lib.hid (HB.out.trans (hby.mono hbz))
        have cty := (HBY.out.cell (p := ⟨bt, off + k, none⟩) hbl).trans CT0.out
        clear hby ct
        have hzy := HBY.out.size
        by_cases hkN : k < N
        · have HUK : Hid (u = k) := Lib.hid (by have := HU.out; omega)
          obtain rfl := HUK.out
          have hkN' : (u : Int) < (N : Int) := by omega
          have hkN2 : ¬ (N : Int) ≤ (u : Int) := by omega
          have HS1 := HS t ht wy B b u hkN HSY.out
          have HG1 := HG t ht u hkN
          go_wp2_with fail
          refine HS1.out.mono ?_
          rintro e wx ⟨rfl, hsx, hgx⟩
          have hltb := HSY.out.lt
          have htx := TextsAt.far HTY.out hgx hgb
          have hrx := (hgx.block W.heap.size (by omega) (fun e => hbW (Option.some.inj e))).trans HRY.out
          have HBX := Lib.hid (below_of_grown HBY.out hgx (by omega) hzy)
          have hzx := hgx.size
          have hwlx : W.heap.size < wx.heap.size := by omega
          have e0 := cell_of_row wx W.heap.size 0 _ _ _ hrx
          have e1 := cell_of_row wx W.heap.size 1 _ _ _ hrx
          simp at e0 e1
          have q0 := fun y : Bel wx.heap.size wx => y.cell hwlx e0
          have q1 := fun y : Bel wx.heap.size wx => y.cell hwlx e1
          have q2 := fun y : Bel wx.heap.size wx => y.cell (by omega) ((HBX.out.cell (p := ⟨bt, off + u, none⟩) hbl).trans CT0.out)
          have K1 := fun y : Bel wx.heap.size wx => HG1 g cl y.w (htx.keep y.h)
          have HSX := Lib.hid hsx
          have HTX := Lib.hid htx
          have HRX := Lib.hid hrx
          generalize sgn s u t h = sg at K1 ⊢
          clear hsx htx hrx hgx e0 e1 hsig hta hrow HS1 HG1 HS HZ HL HG cty HU HUK hdu K0 HSY
          go_wp2_with fail
          refine wp_region_bel wx.heap.size wx (by kernel_rfl) (by kernel_rfl) (Below.refl _ _) ?_
          repeat (go_big_quiet_step (first | (go_at_call 25; exact calls_bel (Nat.le_refl _) (K1 _).out)))
          refine wpQuiet_nil ?_
          rintro _ ⟨y, rfl⟩
          have HSZ := Lib.hid (HSX.out.keep y.h)
          have HTZ := Lib.hid (HTX.out.keep y.h)
          have HRZ := Lib.hid ((y.h.block W.heap.size hwlx).trans HRX.out)
          have HBZ := Lib.hid (HBX.out.trans (y.h.mono (by omega)))
          clear q0 q1 q2 K1
          go_wp2_with fail
          exact ⟨⟨u + 1, u + 1, by omega, by omega, Lib.hid (by omega), by go_num, HSZ, HTZ, HRZ, HBZ.out⟩, by simp [intOf]; omega⟩
        · have hkN' : (N : Int) ≤ (k : Int) := by omega
          have HUN : Hid (u = N) := Lib.hid (by have := HU.out; omega)
          have HZ1 := HZ t wy B b u HUN.out HSY.out
          go_wp2_with fail
          refine HZ1.out.mono ?_
          rintro e wx ⟨rfl, hbx⟩
          have hltb := HSY.out.lt
          have HSX := Lib.hid (HSY.out.keep hbx)
          have HTX := Lib.hid (HTY.out.keep hbx)
          have HRX := Lib.hid ((hbx.block W.heap.size (by omega)).trans HRY.out)
          have HBX := Lib.hid (HBY.out.trans (hbx.mono (by omega)))
          clear hbx
          go_wp2_with fail
          exact ⟨⟨k + 1, u, by omega, by omega, Lib.hid (by have := HU.out; have := HUN.out; omega), by go_num, HSX, HTX, HRX, HBX.out⟩, by simp [intOf]; omega⟩
      · have ht' : (4096 : Int) < (t.size : Int) := by omega
        go_wp2_with fail
        go_ret
        exact ⟨rfl, HB.out⟩
    · by_cases hkm : k < m
      · obtain rfl : k = 40 := by omega
        have n1 : (40 : Int) < (m : Int) := by omega
        have hmin : min (m : Int) 40 = 40 := by omega
        rw [hdu.out] at K0
        go_wp2_with fail
        refine K0.out.mono ?_
        rintro e wy ⟨rfl, hby⟩
        go_wp2_with fail
        go_ret
        refine ⟨?_, HB.out.trans (hby.mono hbz)⟩
        rfl
      · obtain rfl : k = m := by omega
        have hmin : min (k : Int) 40 = (k : Int) := by omega
        rw [hdu.out] at K0
        go_wp2_with fail
        refine K0.out.mono ?_
        rintro e wy ⟨rfl, hby⟩
        go_wp2_with fail
        go_ret
        refine ⟨?_, HB.out.trans (hby.mono hbz)⟩
        rfl

theorem walk (s : ByteArray) (n : Int) (A : Option Addr) (m c : Nat) (ss : List ByteArray) {W : World} (h : IsTexts W A m c ss) (_ : World) :
    Calls Try.prog 4 #[.agg #[.string s, .int .i64 n], .slice A m c] W fun e w' => e = .returned (.bool true) ∧ Below W.heap.size W w' := by
  rcases Nat.lt_or_ge 4096 s.size with h1 | h1
  · exact walk_long s n A m c W h1
  · cases hn : highB n with
    | false => exact walk_no s n A m c W h1 hn
    | true =>
      obtain ⟨k, rfl⟩ := Int.eq_ofNat_of_zero_le ((highB_iff n).1 hn).1
      exact walk_yes s k (by have := ((highB_iff (k : Int)).1 hn).2; omega) A m c _ W h.texts (by
        rcases h with ⟨rfl, rfl, rfl, rfl⟩ | ⟨x, rfl, hl, hm, hz, hc, _⟩
        · decide
        · have hm9 : maxLen = 9223372036854775807 := rfl
          omega) h1

/-! ### The row's step -/
set_option maxRecDepth 100000 in
theorem lifted (os : Os) (started : os.Started) (H : Type) (enc : TypeId × Value → H) :
    ReturnsInHanded {} Try.checked os 4 .any (Rows.groveSignsSpec.pre6 enc Try.prog Try.f4 Rows.groveSignsRow.domain false) (Rows.groveSignsSpec.post enc Try.prog Try.f4 false true false false) := by
  refine returnsInHanded_of_change (C := Try.checked) own started (by kernel_rfl) Try.func4
    (ChangeSpec.witness6 (enc := enc) (C := Try.checked) false ⟨#[], #[.agg #[.string ByteArray.empty, .int .i64 0], .slice none 0 0], []⟩ 8 (by kernel_rfl) (by kernel_rfl) (by kernel_rfl) (by kernel_rfl)) ?_
  intro W base args ds gs before hval0 hW hcnd _
  have hval : ∀ (j : Nat) t v, Try.f4.params[j]? = some t → args[j]? = some v → Value.okWide Try.prog W .any base t v := hval0
  have hW' := hW
  obtain ⟨p, q, hA0, hV, rfl, hfz, hnd⟩ := hW
  have hA : DataW.TrodAll enc Try.prog W 0 (fun _ => true) true Try.f4.params.toList args.toList ds p := hA0
  rw [Try.params4] at hA hval
  obtain ⟨v0, vs0, d0, ds0, p0, q0, hargs, rfl, rfl, h0, r0⟩ := trodAll_cons hA
  obtain ⟨v1, vs1, d1, ds1, p1, q1, rfl, rfl, rfl, h1, r1⟩ := trodAll_cons r0
  obtain ⟨rfl, rfl, rfl⟩ := trodAll_nil r1
  obtain rfl : args = #[v0, v1] := by cases args; simp_all
  obtain ⟨rfl, rfl⟩ := trodVars_none hV
  obtain ⟨s0, n0, rfl⟩ := open_plant (hval 0 23 v0 rfl rfl) h0
  have k0 := h0
  have lt0 : ∀ x ∈ p0, x.block < W.heap.size := by obtain ⟨m, hm⟩ := k0; exact DataW.trod_lt m _ _ _ hm
  obtain ⟨A1, len1, cap1, rfl⟩ := okWide_slice Try.underlying34 (hval 1 34 v1 rfl rfl)
  have k1 := h1
  have lt1 : ∀ x ∈ p1, x.block < W.heap.size := by obtain ⟨m, hm⟩ := k1; exact DataW.trod_lt m _ _ _ hm
  obtain ⟨z1, w1⟩ : ∃ ss, IsTexts W A1 len1 cap1 ss := by
    obtain ⟨fuel, hf⟩ := h1
    rcases open_strings Try.underlying34 Try.underlying9 (by kernel_rfl) hf with ⟨hcs, _⟩ | ⟨x, l, c, ss, hcs, _, hl, hm, hz, _, hcell, hws⟩
    · simp [Value.cells] at hcs
      obtain ⟨rfl, rfl, rfl⟩ := hcs
      exact ⟨[], .inl ⟨rfl, rfl, rfl, rfl⟩⟩
    · simp [Value.cells] at hcs
      obtain ⟨rfl, rfl, rfl⟩ := hcs
      exact ⟨ss, .inr ⟨_, rfl, hl, hm, by simpa using hz, hcell, hws⟩⟩
  clear hA0 hval0
  refine (walk s0 n0 A1 len1 cap1 z1 w1 W).mono fun e W' ⟨he, bel⟩ => ?_
  subst he
  exact ⟨_, rfl, _, _, _, [], _, [], hW', trodAll_mk1 (shut_bool Try.underlying4 _), (trodAll_cons_mk (Below.trod laidOut (by kernel_rfl) (of_decide_eq_true (by kernel_rfl)) k0 bel lt0) (trodAll_cons_mk (Below.trod laidOut (by kernel_rfl) (of_decide_eq_true (by kernel_rfl)) k1 bel lt1) trodAll_mk0)), rfl, bel.frame _, fun h => by cases h⟩

theorem over : Rows.groveSignsRow.holds Try.pinned (OpenSpec.ofChange Rows.groveSignsSpec) :=
  OpenClaim.holds_of_wide 4 Try.f4 rfl rfl rfl rfl rfl rfl rfl ⟨rfl, rfl, rfl, rfl, rfl⟩ rfl rfl rfl rfl rfl (by kernel_rfl) Try.func4 (by kernel_rfl)
    (of_decide_eq_true (by kernel_rfl)) (by unfold Func.isWrapper; first | (rw [if_pos (by decide +kernel)]; kernel_rfl) | (rw [if_neg (by decide +kernel)]; exact ⟨rfl, rfl⟩))
    (fun os started H enc _ => lifted os started H enc)
end GroveSigns
/-- The statement. -/
theorem GroveSigns_holds : Rows.GroveSignsSaid := GroveSigns.over
#print axioms GroveSigns_holds
end Go.Proofs.Ytljnadbfadgglaa
