/- ShaSums: digests of every list of parts are the standard's; the list stays. No condition. -/
import Derived.Test.YtlpfajiigkjooaaJoin
import Derived.BigQuiet
namespace Go.Proofs.Ytlpfajiigkjooaa
open Go.ChangeShapes Go.WideShapes Go.ChangeAt Go.RowKit
open Go.ChangeMaps (open_string shut_string)
set_option linter.unusedVariables false

theorem info_text : (Try.prog.info? 9).map (fun i => (i.zero, i.size, i.bytes)) = some (some (.string ByteArray.empty), 1, 16) := by kernel_rfl

/-- append(nil, l...) of texts. -/
theorem app_texts {ops : Array Oper} {rest : List Oper} {o : Oper} {a : Act} {Q : Exit → Act → World → Prop} (hgd : o.guard = none) (s x : Operand)
    (ho : o.op = .call { callee := .builtin .append, args := #[s, x], argTypes := #[22, 22] })
    (w : World) (A : Option Addr) (n c : Nat) (xs : List ByteArray) (h : Texts w A n c xs) (hn : n ≤ 100) (hs : a.eval s = .slice none 0 0) (hx : a.eval x = .slice A n c)
    (hk : ∀ v' w', w'.ownsRow w.heap.size 9 1 v' n (xs.map .string) → Below w.heap.size w w' → wpList Try.prog ops Q rest (a.put o.dst v') w') :
    wpList Try.prog ops Q (o :: rest) a w := by
  obtain ⟨i0, hi0, hz0, hz1, hz2⟩ := info_parts info_text
  have hxl := h.1
  cases A with
  | none =>
    obtain ⟨rfl, rfl⟩ := h.2.2.1 rfl
    have hx0 : xs = [] := List.length_eq_zero_iff.1 hxl
    subst hx0
    refine wpList_append_own_none hgd s x 22 ho w.heap.size 9 i0 1 Try.underlying22 hi0 (.slice none 0 0) 0 [] hs (World.ownsRow_nil _ _ _ _) hx ?_
    exact hk _ _ (World.ownsRow_nil _ _ _ _) (Below.refl _ _)
  | some ad =>
    obtain ⟨b, off, h1, h2⟩ := h.2.2.2 ad rfl
    refine wpList_append_own w hgd s x 22 ho w.heap.size 9 i0 _ 1 16 Try.underlying22 hi0 hz0 hz1 hz2 rfl (by decide) (.slice none 0 0) 0 [] hs (World.ownsRow_nil _ _ _ _) ad n c (xs.map .string) hx (by simp [hxl]) ?_ ?_ (by unfold maxLen; omega) (by omega) (Nat.le_refl _) ?_
    · intro j u hj
      have hjl : j < n := by have := (List.getElem?_eq_some_iff.1 hj).1; simpa [hxl] using this
      obtain ⟨rfl, _⟩ := h1 (by omega)
      have hadd : (⟨b, off, none⟩ : Addr).add j = ⟨b, off + j, none⟩ := by unfold Addr.add; split <;> simp_all
      rw [hadd, h2 j hjl]
      rw [List.getElem?_map] at hj
      obtain ⟨y, hy, rfl⟩ := Option.map_eq_some_iff.1 hj
      simp [List.getD_eq_getElem?_getD, hy]
    · intro u hu
      obtain ⟨y, _, rfl⟩ := List.mem_map.1 hu
      rfl
    · intro v' w' hown hg _
      rw [Nat.zero_add] at hown
      exact hk v' w' hown ((Below.refl _ _).grown hg (Nat.le_refl _) (fun k hk => by cases hk))

theorem form_cap {w : World} {base n : Nat} {e : TypeId} {v : Value} {xs : List Value} (h : w.ownsRow base e 1 v n xs) (hn : 0 < n) :
    ∃ g cap : Nat, v = .slice (some ⟨g, 0, none⟩) n cap ∧ base ≤ g ∧ g < w.heap.size ∧ n ≤ cap := by
  obtain ⟨g, cg, rfl, hg, hgl⟩ := h.form hn
  refine ⟨g, cg, rfl, hg, hgl, ?_⟩
  rcases h.2 with ⟨h', _⟩ | ⟨g', cap', cur, h', _, _, hnc, _⟩
  · simp at h'
  · simp only [Value.slice.injEq, Option.some.injEq, Addr.mk.injEq, and_true, true_and] at h'
    omega

namespace ShaSums

theorem walk_long (A : Option Addr) (n c : Nat) (xs : List ByteArray) (w : World) (h : 100 < n) :
    Calls Try.prog 3 #[.slice A n c] w fun e w' => e = .returned (.bool true) ∧ Below w.heap.size w w' := by
  have h1 : (100 : Int) < (n : Int) := by omega
  go_enter Try.func3, Try.ntmps3
  go_wp2_with fail
  refine (lives3 w).mono ?_
  rintro e w1 ⟨rfl, hb1⟩
  go_wp2_with fail
  refine (lives3 w1).mono ?_
  rintro e w2 ⟨rfl, hb2⟩
  go_wp2_with fail
  go_ret
  exact ⟨rfl, hb1.trans (hb2.mono hb1.size)⟩

set_option maxRecDepth 100000 in
set_option maxHeartbeats 1000000 in
theorem walk_short (A : Option Addr) (n c : Nat) (xs : List ByteArray) (w : World) (ht : Texts w A n c xs) (h : n ≤ 100) :
    Calls Try.prog 3 #[.slice A n c] w fun e w' => e = .returned (.bool true) ∧ Below w.heap.size w w' := by
  have h1 : ¬ (100 : Int) < (n : Int) := by omega
  have HT := Lib.hid ht
  have Hn := Lib.hid h
  have Hxl := Lib.hid ht.1
  clear ht h
  go_enter Try.func3, Try.ntmps3
  go_wp2_with fail
  refine (lives3 w).mono ?_
  rintro e w1 ⟨rfl, hb1⟩
  have HT1 := Lib.hid (HT.out.keep hb1)
  have HB1 := Lib.hid hb1
  have Hs1 := Lib.hid hb1.size
  clear hb1 HT
  go_wp2_with fail
  go_loopw [3] (fun i wr => ∃ k : Nat, k ≤ n ∧ i = .int .i64 k ∧ wr = w1 ∧ Hid (∀ j, j < k → (xs.getD j ByteArray.empty).size ≤ 4096)) (fun i _ => n - (intOf i).toNat)
  case atStart => exact ⟨0, by omega, rfl, rfl, Lib.hid (fun j hj => by omega)⟩
  case round =>
    obtain ⟨k, hk, rfl, rfl, hsm⟩ := hrel
    by_cases hlt : k < n
    · obtain ⟨ad, rfl⟩ : ∃ ad, A = some ad := by
        cases A with
        | none => have := HT1.out.2.2.1 rfl; omega
        | some ad => exact ⟨ad, rfl⟩
      obtain ⟨b, off, h1, h2⟩ := HT1.out.2.2.2 ad rfl
      obtain ⟨rfl, hbl⟩ := h1 (by omega)
      have hc := h2 k hlt
      obtain ⟨x, hx⟩ : ∃ x, x = xs.getD k ByteArray.empty := ⟨_, rfl⟩
      rw [← hx] at hc
      have HX := Lib.hid hx
      clear h1 h2 hx
      by_cases hz : x.size ≤ 4096
      · have hz' : ¬ (4096 : Int) < (x.size : Int) := by omega
        go_wp2_with fail
        refine ⟨⟨k + 1, by omega, by go_num, by first | trivial | rfl, Lib.hid (fun j hj => ?_)⟩, by simp [intOf]; omega⟩
        rcases Nat.lt_or_ge j k with h | h
        · exact hsm.out j h
        · obtain rfl : j = k := by omega
          rw [← HX.out]; exact hz
      · have hz' : (4096 : Int) < (x.size : Int) := by omega
        go_wp2_with fail
        go_ret
        exact ⟨rfl, HB1.out⟩
    · obtain rfl : k = n := by omega
      have HSM : Hid (∀ j, j < k → (xs.getD j ByteArray.empty).size ≤ 4096) := hsm
      clear hlt hk hsm
      have hk := Hn.out
      go_wp2_with (at_builtin; first | (refine app_texts rfl (.const (.slice none 0 0)) (.tmp 26) rfl _ A k c xs HT1.out Hn.out (by rfl) (by rfl) ?_; intro v1 w2 hown1 hb2) | (refine app_lit rfl (.tmp 27) (.tmp 28) 22 9 rfl info_text Try.underlying22 rfl wr _ wr.heap.size wr.heap.size (Nat.le_refl _) hb2.size hb2 _ _ _ (by rfl) hown1 _ 1 1 (by rfl) (by rfl) (by intro u hu; simp at hu; subst hu; rfl) (by omega) (by unfold maxLen; omega) ?_; intro v2 w3 hown2 hb3 _ _; obtain ⟨g, cg, rfl, hg, hgl, hcap⟩ := form_cap hown2 (by omega); have n0 : 0 ≤ (k : Int) := (by omega); have n1 : (k : Int) ≤ (cg : Int) := (by omega); have n2 : (k : Int) < (k : Int) + 1 := (by omega)))
      have hz2 := hb2.size
      have hcs : ∀ j x, (xs.map Value.string ++ [Value.string ⟨#[115, 112, 97, 114, 101]⟩])[j]? = some x → w3.cell? ⟨g, j, none⟩ = some x := by
        intro j x hj
        have := hown2.cells (g := g) rfl j x hj
        rwa [show (⟨g, 0, none⟩ : Addr).add j = ⟨g, j, none⟩ by unfold Addr.add; split <;> simp_all] at this
      have hc1 : ∀ j x, xs[j]? = some x → w3.cell? ⟨g, 0 + j, none⟩ = some (.string x) := by
        intro j x hj
        rw [Nat.zero_add]
        refine hcs j _ ?_
        have hjl : j < xs.length := (List.getElem?_eq_some_iff.1 hj).1
        rw [List.getElem?_append_left (by simpa using hjl)]
        simp [hj]
      have hc2 : w3.cell? ⟨g, k, none⟩ = some (.string ⟨#[115, 112, 97, 114, 101]⟩) := by
        refine hcs k _ ?_
        rw [List.getElem?_append_right (by simp [Hxl.out])]
        simp [Hxl.out]
      have hcat : (cat xs).size ≤ 409600 := by
        have h1 := cat_size_le xs 4096 (fun x hx => by
          obtain ⟨i, hi, rfl⟩ := List.getElem_of_mem hx
          have := HSM.out i (by have := Hxl.out; omega)
          simpa [List.getD_eq_getElem?_getD, hi] using this)
        have h2 := Hxl.out
        have : 4096 * xs.length ≤ 4096 * 100 := Nat.mul_le_mul_left _ (by omega)
        omega
      have HS := Lib.hid (sum_any g 0 cg k xs Hxl.out.symm w3 hc1 hgl (by omega) (by omega) (by omega))
      have HT3 := HT1.out.keep hb3
      have HC1 := Lib.hid hc1
      have HC2 := Lib.hid hc2
      have hz3 := hb3.size
      clear hc1 hc2 hcs hown2 hown1
      refine HS.out.mono ?_
      rintro e w4 ⟨rfl, hb4⟩
      have hz4 := hb4.size
      have hb34 := hb3.trans (hb4.mono hz3)
      have HJ := Lib.hid (join_any A k c xs w4 (HT1.out.keep hb34) Hn.out HSM.out)
      go_wp2_with fail
      refine HJ.out.mono ?_
      rintro e w5 ⟨rfl, hb5⟩
      have hz5 := hb5.size
      have HR := Lib.hid (refsum_any (cat xs) (by omega) w5)
      go_wp2_with fail
      refine HR.out.mono ?_
      rintro e w6 ⟨rfl, hb6⟩
      have hz6 := hb6.size
      have hb36 : Below w3.heap.size w3 w6 := hb4.trans ((hb5.mono (by omega)).trans (hb6.mono (by omega)))
      have hcS := (hb36.cell (p := ⟨g, k, none⟩) hgl).trans HC2.out
      have hb46 : Below wr.heap.size wr w6 := hb3.trans (hb36.mono (by omega))
      have HB36 := Lib.hid hb36
      have HB46 := Lib.hid hb46
      clear HS HJ HR hb3 hb4 hb34 hb5 hb6 hb36 hb46 hb2
      go_wp2_with fail
      have hgl6 : g < w6.heap.size := by omega
      have HT6 := Lib.hid (HT1.out.keep HB46.out)
      clear HT3 HC2 hcS hcat hz2
      go_loopw [5] (fun i w' => ∃ j : Nat, j ≤ k ∧ i = .int .i64 j ∧ Below w6.heap.size w6 w') (fun i _ => k - (intOf i).toNat)
      case atStart => exact ⟨0, by omega, rfl, Below.refl _ _⟩
      case round =>
        obtain ⟨j, hj, rfl, hbel⟩ := hrel
        by_cases hlt : j < k
        · obtain ⟨ad, rfl⟩ : ∃ ad, A = some ad := by
            cases A with
            | none => have := HT1.out.2.2.1 rfl; omega
            | some ad => exact ⟨ad, rfl⟩
          obtain ⟨b, off, h1, h2⟩ := (HT6.out.keep hbel).2.2.2 ad rfl
          obtain ⟨rfl, hbl⟩ := h1 (by omega)
          have hca := h2 j hlt
          have hcb := ((HB36.out.trans (hbel.mono (by omega))).cell (p := ⟨g, 0 + j, none⟩) hgl).trans (HC1.out j (xs.getD j ByteArray.empty) (by
            have := Hxl.out
            simp [List.getD_eq_getElem?_getD, show j < xs.length by omega]))
          rw [Nat.zero_add] at hcb
          generalize xs.getD j ByteArray.empty = x at hca hcb
          have n3 : 0 ≤ (j : Int) := by omega
          have n4 : (j : Int) < (k : Int) := by omega
          have n5 : (j : Int) < (k : Int) + 1 := by omega
          clear h1 h2
          go_wp2_with fail
          go_quiet (fail)
          go_wp2_with fail
          exact ⟨⟨j + 1, by omega, by go_num, ⟨hbel.os, hbel.tape, hbel.output, hbel.size, hbel.block⟩⟩, by simp [intOf]; omega⟩
        · obtain rfl : j = k := by omega
          clear hlt hj
          go_wp2_with fail
          go_ret
          exact ⟨rfl, HB1.out.trans ((HB46.out.trans (hbel.mono (by omega))).mono Hs1.out)⟩

theorem walk (A : Option Addr) (n c : Nat) (ss : List ByteArray) {w : World} (h : IsTexts w A n c ss) (_ : World) :
    Calls Try.prog 3 #[.slice A n c] w fun e w' => e = .returned (.bool true) ∧ Below w.heap.size w w' := by
  rcases Nat.lt_or_ge 100 n with h1 | h1
  · exact walk_long A n c ss w h1
  · exact walk_short A n c _ w h.texts h1

/-! ### The row's step -/
set_option maxRecDepth 100000 in
theorem lifted (os : Os) (started : os.Started) (H : Type) (enc : TypeId × Value → H) :
    ReturnsInHanded {} Try.checked os 3 .any (Rows.shaSumsSpec.pre6 enc Try.prog Try.f3 Rows.shaSumsRow.domain false) (Rows.shaSumsSpec.post enc Try.prog Try.f3 false true false false) := by
  refine returnsInHanded_of_change (C := Try.checked) own started (by kernel_rfl) Try.func3
    (ChangeSpec.witness6 (enc := enc) (C := Try.checked) false ⟨#[], #[.slice none 0 0], []⟩ 8 (by kernel_rfl) (by kernel_rfl) (by kernel_rfl) (by kernel_rfl)) ?_
  intro W base args ds gs before hval0 hW hcnd _
  have hval : ∀ (j : Nat) t v, Try.f3.params[j]? = some t → args[j]? = some v → Value.okWide Try.prog W .any base t v := hval0
  have hW' := hW
  obtain ⟨p, q, hA0, hV, rfl, hfz, hnd⟩ := hW
  have hA : DataW.TrodAll enc Try.prog W 0 (fun _ => true) true Try.f3.params.toList args.toList ds p := hA0
  rw [Try.params3] at hA hval
  obtain ⟨v0, vs0, d0, ds0, p0, q0, hargs, rfl, rfl, h0, r0⟩ := trodAll_cons hA
  obtain ⟨rfl, rfl, rfl⟩ := trodAll_nil r0
  obtain rfl : args = #[v0] := by cases args; simp_all
  obtain ⟨rfl, rfl⟩ := trodVars_none hV
  obtain ⟨A0, len0, cap0, rfl⟩ := okWide_slice Try.underlying22 (hval 0 22 v0 rfl rfl)
  have k0 := h0
  have lt0 : ∀ x ∈ p0, x.block < W.heap.size := by obtain ⟨m, hm⟩ := k0; exact DataW.trod_lt m _ _ _ hm
  obtain ⟨z0, w0⟩ : ∃ ss, IsTexts W A0 len0 cap0 ss := by
    obtain ⟨fuel, hf⟩ := h0
    rcases open_strings Try.underlying22 Try.underlying9 (by kernel_rfl) hf with ⟨hcs, _⟩ | ⟨x, l, c, ss, hcs, _, hl, hm, hz, _, hcell, hws⟩
    · simp [Value.cells] at hcs
      obtain ⟨rfl, rfl, rfl⟩ := hcs
      exact ⟨[], .inl ⟨rfl, rfl, rfl, rfl⟩⟩
    · simp [Value.cells] at hcs
      obtain ⟨rfl, rfl, rfl⟩ := hcs
      exact ⟨ss, .inr ⟨_, rfl, hl, hm, by simpa using hz, hcell, hws⟩⟩
  clear hA0 hval0
  refine (walk A0 len0 cap0 z0 w0 W).mono fun e W' ⟨he, bel⟩ => ?_
  subst he
  exact ⟨_, rfl, _, _, _, [], _, [], hW', trodAll_mk1 (shut_bool Try.underlying4 _), (trodAll_cons_mk (Below.trod laidOut (by kernel_rfl) (of_decide_eq_true (by kernel_rfl)) k0 bel lt0) trodAll_mk0), rfl, bel.frame _, fun h => by cases h⟩

theorem over : Rows.shaSumsRow.holds Try.pinned (OpenSpec.ofChange Rows.shaSumsSpec) :=
  OpenClaim.holds_of_wide 3 Try.f3 rfl rfl rfl rfl rfl rfl rfl ⟨rfl, rfl, rfl, rfl, rfl⟩ rfl rfl rfl rfl rfl (by kernel_rfl) Try.func3 (by kernel_rfl)
    (of_decide_eq_true (by kernel_rfl)) (by unfold Func.isWrapper; first | (rw [if_pos (by decide +kernel)]; kernel_rfl) | (rw [if_neg (by decide +kernel)]; exact ⟨rfl, rfl⟩))
    (fun os started H enc _ => lifted os started H enc)
end ShaSums
/-- The statement. -/
theorem ShaSums_holds : Rows.ShaSumsSaid := ShaSums.over
#print axioms ShaSums_holds
end Go.Proofs.Ytlpfajiigkjooaa
