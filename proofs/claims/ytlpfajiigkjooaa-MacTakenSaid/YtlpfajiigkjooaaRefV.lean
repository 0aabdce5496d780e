/- witanref04.Vector; witanref01.SameTexts, SameInts at two like slices. Condition: seed and text take at most 4,096 bytes. -/
import Derived.Test.YtlpfajiigkjooaaVec
namespace Go.Proofs.Ytlpfajiigkjooaa
open Go.RowKit
set_option linter.unusedVariables false
set_option linter.unusedSimpArgs false

theorem not_all (xs : List Int) (k : Nat) (h : k < xs.length) (hn : nodeB (xs.getD k 0) = false) : xs.all nodeB = false := by
  cases hc : xs.all nodeB with
  | false => rfl
  | true => rw [all_at xs k h hc] at hn; cases hn
theorem all_of (xs : List Int) (h : (xs.take xs.length).all nodeB = true) : xs.all nodeB = true := by rwa [List.take_length] at h

set_option maxHeartbeats 1000000 in
theorem refvector_any (seed : ByteArray) (hs : seed.size ≤ 4096) (f : Int) (A : Option Addr) (n c : Nat) (xs : List Int) (text : ByteArray) (ht : text.size ≤ 4096) (w : World) (h : Ints w A n c xs) :
    Calls Try.prog 50 #[.string seed, .int .i64 f, .slice A n c, .string text] w fun e w' => ∃ v, e = .returned (.tuple #[v, .int .i64 (vecE f xs)]) ∧ VecR w' w.heap.size (vecE f xs) (tagsOf seed f text xs) v ∧ Below w.heap.size w w' := by
  have HN := fun (n : Int) (w : World) => Lib.hid (refnode_u n w)
  have HT := fun (a b : Nat) (ha : a < 200) (hb : b < 200) (w : World) => Lib.hid (reftag_yes seed hs a b ha hb text ht w)
  have hxl := Lib.hid h.1
  have hnc := Lib.hid h.2.1
  have hcm : c ≤ 9223372036854775807 := h.2.2.1
  have hn63 : n ≤ 9223372036854775807 := Nat.le_trans h.2.1 hcm
  have H := Lib.hid h
  clear h hs ht hcm
  cases hf : nodeB f with
  | false =>
    have Hf := fun w : World => HN f w
    rw [hf] at Hf
    have hE : vecE f xs = 1 := by unfold vecE; rw [hf]; rfl
    go_enter Try.func50, Try.ntmps50
    go_wp2_with fail
    refine (Hf w).out.mono ?_
    rintro e w1 ⟨rfl, rfl⟩
    go_wp2_with fail
    go_ret2
    exact ⟨_, by rw [hE]; rfl, .inl ⟨by rw [hE]; decide, rfl⟩, Below.refl _ _⟩
  | true =>
  have Hf := fun w : World => HN f w
  rw [hf] at Hf
  go_enter Try.func50, Try.ntmps50
  go_wp2_with fail
  refine (Hf w).out.mono ?_
  rintro e w1 ⟨rfl, rfl⟩
  go_wp2_with fail
  go_loopw [10] (fun i wr => ∃ k : Nat, k ≤ n ∧ i = .int .i64 k ∧ Hid ((xs.take k).all nodeB = true) ∧ w = wr) (fun i _ => n - (intOf i).toNat)
  case atStart => exact ⟨0, by omega, rfl, Lib.hid rfl, rfl⟩
  case round =>
    obtain ⟨k, hk, rfl, hall0, rfl⟩ := hrel
    by_cases hlt : k < n
    · obtain ⟨b, off, rfl, hbl, hcs⟩ := H.out.at k hlt
      have hc := hcs k hlt
      have e1 := Lib.hid (all_take_succ xs k (by rw [hxl.out]; exact hlt))
      have e2 := Lib.hid (not_all xs k (by rw [hxl.out]; exact hlt))
      have HNy := HN (xs.getD k 0)
      have n0 : 0 ≤ (k : Int) := by omega
      have n1 : (k : Int) < (n : Int) := by omega
      clear hcs
      generalize xs.getD k 0 = y at hc e1 e2 HNy
      cases hy : nodeB y with
      | true =>
        rw [hy] at HNy
        go_wp2_with fail
        refine (HNy w).out.mono ?_
        rintro e w1 ⟨rfl, rfl⟩
        have hall1 : Hid ((xs.take (k + 1)).all nodeB = true) := Lib.hid (by rw [e1.out, hall0.out, hy]; rfl)
        go_wp2_with fail
        exact ⟨⟨k + 1, by omega, by go_num, hall1, trivial⟩, by simp [intOf]; omega⟩
      | false =>
        rw [hy] at HNy
        have hE : vecE f xs = 1 := by unfold vecE; rw [e2.out hy, Bool.and_false]; rfl
        go_wp2_with fail
        refine (HNy w).out.mono ?_
        rintro e w1 ⟨rfl, rfl⟩
        go_wp2_with fail
        go_ret2
        exact ⟨_, by rw [hE]; rfl, .inl ⟨by rw [hE]; decide, rfl⟩, Below.refl _ _⟩
    · obtain rfl : k = n := by omega
      have hr : xs.all nodeB = true := by
        have := hall0.out
        rw [List.take_of_length_le (by rw [hxl.out]; exact Nat.le_refl _)] at this
        exact this
      by_cases h16 : 16 < k
      · have hE : vecE f xs = 3 := by unfold vecE; rw [hf, hr, Bool.and_true, if_pos rfl, if_pos (by rw [hxl.out]; exact h16)]
        have h16' : (16 : Int) < (k : Int) := by omega
        go_wp2_with fail
        go_ret2
        exact ⟨_, by rw [hE]; rfl, .inl ⟨by rw [hE]; decide, rfl⟩, Below.refl _ _⟩
      · have hE : vecE f xs = 0 := by unfold vecE; rw [hf, hr, Bool.and_true, if_pos rfl, if_neg (by rw [hxl.out]; exact h16)]
        have h16' : (k : Int) ≤ 16 := by omega
        have hall : ∀ j, j < k → nodeB (xs.getD j 0) = true := fun j hj => all_at xs j (by rw [hxl.out]; exact hj) hr
        have HA := Lib.hid hall
        obtain ⟨fn, hfn⟩ := Int.eq_ofNat_of_zero_le ((nodeB_iff f).1 hf).1
        have hf200 : fn < 200 := by have := ((nodeB_iff f).1 hf).2; omega
        have hTl : Hid ((tagsOf seed f text xs).length = k) := Lib.hid (by unfold tagsOf; rw [List.length_map]; exact hxl.out)
        have hTat : Hid (∀ j, j < k → (tagsOf seed f text xs).getD j ByteArray.empty = tagK seed fn (xs.getD j 0).toNat text) := Lib.hid (fun j hj => by
          unfold tagsOf
          rw [hfn]
          simp [List.getD_eq_getElem?_getD, show j < xs.length by rw [hxl.out]; exact hj])
        obtain ⟨T, hT⟩ : ∃ T, T = tagsOf seed f text xs := ⟨_, rfl⟩
        rw [← hT] at hTl hTat
        have HT0 := Lib.hid hT
        have HF := Lib.hid hfn
        clear hall hT hfn hf hr hall0
        go_wp2_with fail
        go_loopw [11, 12] (fun v i wr => ∃ j : Nat, j ≤ k ∧ i = .int .i64 j ∧ wr.ownsRow w.heap.size 9 1 v j ((T.take j).map Value.string) ∧ Below w.heap.size w wr) (fun _ i _ => k - (intOf i).toNat)
        case atStart => exact ⟨0, by omega, rfl, World.ownsRow_nil _ _ _ _, Below.refl _ _⟩
        case round =>
          obtain ⟨j, hj, rfl, hown, hbel⟩ := hrel
          have hz := hbel.size
          by_cases hjt : j < k
          · obtain ⟨b, off, rfl, hbl, hcs⟩ := H.out.at j hjt
            have hc := (hbel.cell (p := ⟨b, off + j, none⟩) hbl).trans (hcs j hjt)
            have hTj := hTat.out j hjt
            have hnj := HA.out j hjt
            have htk : Hid (T.take (j + 1) = T.take j ++ [T.getD j ByteArray.empty]) := Lib.hid (take_succ_T T j (by rw [hTl.out]; exact hjt))
            rw [hTj] at htk
            obtain ⟨y, hy⟩ := Int.eq_ofNat_of_zero_le ((nodeB_iff (xs.getD j 0)).1 hnj).1
            have hy200 : y < 200 := by have := ((nodeB_iff (xs.getD j 0)).1 hnj).2; omega
            rw [hy] at hc htk
            have HTj := HT fn y hf200 hy200
            rw [← HF.out] at HTj
            change Hid (T.take (j + 1) = T.take j ++ [tagK seed fn y text]) at htk
            generalize tagK seed fn y text = x at HTj htk
            have n0 : 0 ≤ (j : Int) := by omega
            have n1 : (j : Int) < (k : Int) := by omega
            clear hcs hTj hnj hy
            go_wp2_with fail
            refine (HTj wr).out.mono ?_
            rintro e w2 ⟨rfl, hb2⟩
            have hbel2 := hbel.trans (hb2.mono hz)
            have hown2 := hown.kept (row := none) (only_of_below hb2 none) (by cases hn : Value.ownBlock _ <;> simp)
            have hz2 := hbel2.size
            clear hown hbel hz hc hb2
            go_wp2_with (at_builtin; go_must (refine app_lit rfl (.tmp 37) (.tmp 46) 22 9 rfl info_str Try.underlying22 rfl w w2 w.heap.size w.heap.size (Nat.le_refl _) hz2 hbel2 _ _ _ (by rfl) hown2 _ 1 1 (by rfl) (by rfl) (by intro u hu; simp at hu; subst hu; rfl) (by omega) (by unfold maxLen; omega) ?_); go_must (intro v1 w9 hown1 hbel1 _ _); clear hown2 hbel2 hz2)
            have hown3 : w9.ownsRow w.heap.size 9 1 v1 (j + 1) ((T.take (j + 1)).map Value.string) := by
              rw [htk.out, List.map_append]
              exact hown1
            clear hown1
            go_wp2_with fail
            exact ⟨⟨j + 1, by omega, by go_num, hown3, hbel1⟩, by simp [intOf]; omega⟩
          · obtain rfl : j = k := by omega
            rw [List.take_of_length_le (by rw [hTl.out]; exact Nat.le_refl _)] at hown
            go_wp2_with fail
            go_ret2
            refine ⟨_, by rw [hE]; rfl, .inr ⟨hE, by rw [← HT0.out, hTl.out]; omega, ?_⟩, hbel⟩
            rw [← HT0.out, hTl.out]
            exact hown

/-- SameTexts at two slices with the same texts. -/
theorem sametexts_any (g c g' c' n : Nat) (l : List ByteArray) (hl : l.length = n) (hn : n ≤ 1000000) (w : World) (hg : g < w.heap.size) (hg' : g' < w.heap.size)
    (h1 : ∀ j, j < n → w.cell? ⟨g, j, none⟩ = some (.string (l.getD j ByteArray.empty))) (h2 : ∀ j, j < n → w.cell? ⟨g', j, none⟩ = some (.string (l.getD j ByteArray.empty))) :
    Calls Try.prog 51 #[.slice (some ⟨g, 0, none⟩) n c, .slice (some ⟨g', 0, none⟩) n c'] w fun e w' => e = .returned (.bool true) ∧ Below w.heap.size w w' := by
  have H1 := Lib.hid h1
  have H2 := Lib.hid h2
  clear h1 h2
  go_enter Try.func51, Try.ntmps51
  go_wp2_with fail
  go_loopw [5] (fun i wr => ∃ k : Nat, k ≤ n ∧ i = .int .i64 k ∧ Below w.heap.size w wr) (fun i _ => n - (intOf i).toNat)
  case atStart => exact ⟨0, by omega, rfl, Below.refl _ _⟩
  case round =>
    obtain ⟨k, hk, rfl, hbel⟩ := hrel
    by_cases hlt : k < n
    · have hca := (hbel.cell (p := ⟨g, k, none⟩) hg).trans (H1.out k hlt)
      have hcb := (hbel.cell (p := ⟨g', k, none⟩) hg').trans (H2.out k hlt)
      generalize l.getD k ByteArray.empty = x at hca hcb
      have n3 : 0 ≤ (k : Int) := by omega
      have n4 : (k : Int) < (n : Int) := by omega
      go_wp2_with fail
      go_quiet (fail)
      go_wp2_with fail
      exact ⟨⟨k + 1, by omega, by go_num, ⟨hbel.os, hbel.tape, hbel.output, hbel.size, hbel.block⟩⟩, by simp [intOf]; omega⟩
    · obtain rfl : k = n := by omega
      go_wp2_with fail
      go_ret
      exact ⟨rfl, hbel⟩
theorem sametexts_nil (w : World) :
    Calls Try.prog 51 #[.slice none 0 0, .slice none 0 0] w fun e w' => e = .returned (.bool true) ∧ Below w.heap.size w w' := by
  go_enter Try.func51, Try.ntmps51
  go_wp2_with fail
  go_loopw [5] (fun i wr => i = .int .i64 0 ∧ w = wr) (fun i _ => 0)
  case atStart => exact ⟨rfl, rfl⟩
  case round =>
    obtain ⟨rfl, rfl⟩ := hrel
    go_wp2_with fail
    go_ret
    exact ⟨rfl, Below.refl _ _⟩
end Go.Proofs.Ytlpfajiigkjooaa
