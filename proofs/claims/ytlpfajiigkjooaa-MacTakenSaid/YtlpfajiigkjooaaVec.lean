/- mac.Vector: a tag for each. Condition: seed and text take at most 4,096 bytes. -/
import Derived.Test.YtlpfajiigkjooaaTag
namespace Go.Proofs.Ytlpfajiigkjooaa
open Go.RowKit
set_option linter.unusedVariables false
set_option linter.unusedSimpArgs false

theorem info_str : (Try.prog.info? 9).map (fun i => (i.zero, i.size, i.bytes)) = some (some (.string ByteArray.empty), 1, 16) := by kernel_rfl
/-- The slice holds the ints xs. -/
def Ints (w : World) (a : Option Addr) (n c : Nat) (xs : List Int) : Prop :=
  xs.length = n ∧ n ≤ c ∧ c ≤ maxLen ∧ (a = none → n = 0 ∧ c = 0) ∧ ∀ ad, a = some ad → ∃ b off, (0 < n → ad = ⟨b, off, none⟩ ∧ b < w.heap.size) ∧ ∀ i, i < n → w.cell? ⟨b, off + i, none⟩ = some (.int .i64 (xs.getD i 0))
theorem IsInts.ints {w : World} {a : Option Addr} {n c : Nat} {zs : List Int} (h : IsInts w a n c zs) : Ints w a n c (zs.take n) := by
  rcases h with ⟨rfl, rfl, rfl, rfl⟩ | ⟨x, rfl, hl, hm, hz, hc, _⟩
  · exact ⟨rfl, Nat.le_refl _, Nat.zero_le _, fun _ => ⟨rfl, rfl⟩, fun _ h => by cases h⟩
  · refine ⟨by rw [List.length_take]; omega, hl, hm, (fun h => by cases h), fun ad hh => ?_⟩
    cases hh
    by_cases h0 : 0 < n
    · have h1 := hc 0 (by omega)
      obtain ⟨b, off, spot⟩ := x
      have hspot : spot = none := by simpa [Addr.add] using World.cell?_spot h1
      subst hspot
      refine ⟨b, off, fun _ => ⟨rfl, ?_⟩, fun i hi => ?_⟩
      · have := block_lt_of_cell h1
        simpa [Addr.add] using this
      · have h2 := hc i (by omega)
        have hadd : (⟨b, off, none⟩ : Addr).add i = ⟨b, off + i, none⟩ := by unfold Addr.add; split <;> simp_all
        rw [hadd] at h2
        rw [h2]
        simp [List.getD_eq_getElem?_getD, hi]
    · exact ⟨0, 0, fun h => absurd h h0, fun i hi => by omega⟩
theorem Ints.keep {w w' : World} {a : Option Addr} {n c : Nat} {xs : List Int} (h : Ints w a n c xs) (hb : Below w.heap.size w w') : Ints w' a n c xs := by
  refine ⟨h.1, h.2.1, h.2.2.1, h.2.2.2.1, fun ad hh => ?_⟩
  obtain ⟨b, off, h1, h2⟩ := h.2.2.2.2 ad hh
  refine ⟨b, off, fun h0 => ⟨(h1 h0).1, Nat.lt_of_lt_of_le (h1 h0).2 hb.size⟩, fun i hi => ?_⟩
  rw [hb.cell (p := ⟨b, off + i, none⟩) (h1 (by omega)).2]
  exact h2 i hi
/-- What the slice looks like where it has a k-th. -/
theorem Ints.at {w : World} {a : Option Addr} {n c : Nat} {xs : List Int} (h : Ints w a n c xs) (k : Nat) (hk : k < n) : ∃ b off, a = some ⟨b, off, none⟩ ∧ b < w.heap.size ∧ ∀ i, i < n → w.cell? ⟨b, off + i, none⟩ = some (.int .i64 (xs.getD i 0)) := by
  cases a with
  | none => have := (h.2.2.2.1 rfl).1; omega
  | some ad =>
    obtain ⟨b, off, h1, h2⟩ := h.2.2.2.2 ad rfl
    obtain ⟨rfl, h3⟩ := h1 (by omega)
    exact ⟨b, off, rfl, h3, h2⟩

def vecE (f : Int) (xs : List Int) : Int := if nodeB f && xs.all nodeB then (if 16 < xs.length then 3 else 0) else 1
def tagsOf (seed : ByteArray) (f : Int) (text : ByteArray) (xs : List Int) : List ByteArray := xs.map fun b => tagK seed f.toNat b.toNat text
/-- What Vector hands back. -/
def VecR (w : World) (B : Nat) (E : Int) (tags : List ByteArray) (v : Value) : Prop := (E ≠ 0 ∧ v = .slice none 0 0) ∨ (E = 0 ∧ tags.length ≤ 16 ∧ w.ownsRow B 9 1 v tags.length (tags.map Value.string))

theorem take_succ_int (xs : List Int) (k : Nat) (h : k < xs.length) : xs.take (k + 1) = xs.take k ++ [xs.getD k 0] := by
  rw [List.take_succ_eq_append_getElem h]
  simp [List.getD_eq_getElem?_getD, h]
theorem all_take_succ (xs : List Int) (k : Nat) (h : k < xs.length) : (xs.take (k + 1)).all nodeB = ((xs.take k).all nodeB && nodeB (xs.getD k 0)) := by
  rw [take_succ_int xs k h, List.all_append]; simp
theorem all_at (xs : List Int) (k : Nat) (h : k < xs.length) (ha : xs.all nodeB = true) : nodeB (xs.getD k 0) = true := by
  rw [List.all_eq_true] at ha
  exact ha _ (by rw [List.getD_eq_getElem?_getD, List.getElem?_eq_getElem h]; exact List.getElem_mem h)

theorem take_succ_T (xs : List ByteArray) (k : Nat) (h : k < xs.length) : xs.take (k + 1) = xs.take k ++ [xs.getD k ByteArray.empty] := by
  rw [List.take_succ_eq_append_getElem h]
  simp [List.getD_eq_getElem?_getD, h]
theorem mkT (n : Nat) (hn : n ≤ 16) (w : World) : (Instr.makeSlice 22 (.int .i64 0) (.int .i64 (n : Int))).run Try.prog w = .ok (.slice (some ⟨w.heap.size, 0, none⟩) 0 n) (w.alloc (.cells (madeCells #[Value.string ByteArray.empty] n) 9)) := by
  obtain ⟨i0, hi0, hz0, hz1, hz2⟩ := info_parts info_str
  have := run_make (P := Try.prog) w 22 9 i0 _ Try.underlying22 hi0 hz0 .i64 .i64 0 n (by omega) (by omega) (by rw [hz2]; omega) (by omega)
  rw [this, hz1, Int.toNat_natCast, Nat.mul_one]
  rfl

set_option maxHeartbeats 1000000 in
theorem vector_any (seed : ByteArray) (hs : seed.size ≤ 4096) (f : Int) (A : Option Addr) (n c : Nat) (xs : List Int) (text : ByteArray) (ht : text.size ≤ 4096) (w : World) (h : Ints w A n c xs) :
    Calls Try.prog 49 #[.string seed, .int .i64 f, .slice A n c, .string text] w fun e w' => ∃ v, e = .returned (.tuple #[v, .int .i64 (vecE f xs)]) ∧ VecR w' w.heap.size (vecE f xs) (tagsOf seed f text xs) v ∧ Below w.heap.size w w' := by
  have HN := fun (n : Int) (w : World) => Lib.hid (node_u n w)
  have HT := fun (b : Int) (w : World) => Lib.hid (tag_u seed hs f b text ht w)
  have hxl := Lib.hid h.1
  have hnc := Lib.hid h.2.1
  have hcm : c ≤ 9223372036854775807 := h.2.2.1
  have hn63 : n ≤ 9223372036854775807 := Nat.le_trans h.2.1 hcm
  have H := Lib.hid h
  clear h hs ht hcm
  go_enter Try.func49, Try.ntmps49
  go_wp2_with fail
  refine (HN f w).out.mono ?_
  rintro e w1 ⟨rfl, rfl⟩
  go_wp2_with fail
  go_loopw [10, 22] (fun r i wr => ∃ k : Nat, k ≤ n ∧ i = .int .i64 k ∧ r = .bool (nodeB f && (xs.take k).all nodeB) ∧ w = wr) (fun _ i _ => n - (intOf i).toNat)
  case atStart => exact ⟨0, by omega, rfl, by simp, rfl⟩
  case round =>
    obtain ⟨k, hk, rfl, rfl, rfl⟩ := hrel
    by_cases hlt : k < n
    · obtain ⟨b, off, rfl, hbl, hcs⟩ := H.out.at k hlt
      have hc := hcs k hlt
      have e1 := Lib.hid (all_take_succ xs k (by rw [hxl.out]; exact hlt))
      generalize xs.getD k 0 = y at hc e1
      have n0 : 0 ≤ (k : Int) := by omega
      have n1 : (k : Int) < (n : Int) := by omega
      clear hcs
      cases hr : nodeB f && (xs.take k).all nodeB with
      | true =>
        go_wp2_with fail
        refine (HN y w).out.mono ?_
        rintro e w1 ⟨rfl, rfl⟩
        go_wp2_with fail
        exact ⟨⟨k + 1, by omega, by go_num, by rw [e1.out, ← Bool.and_assoc, hr]; rfl, trivial⟩, by simp [intOf]; omega⟩
      | false =>
        go_wp2_with fail
        exact ⟨⟨k + 1, by omega, by go_num, by rw [e1.out, ← Bool.and_assoc, hr]; rfl, trivial⟩, by simp [intOf]; omega⟩
    · obtain rfl : k = n := by omega
      rw [List.take_of_length_le (by rw [hxl.out]; exact Nat.le_refl _)]
      cases hr : nodeB f && xs.all nodeB with
      | false =>
        have hE : vecE f xs = 1 := by unfold vecE; rw [hr]; rfl
        go_wp2_with fail
        go_ret2
        exact ⟨_, by rw [hE]; rfl, .inl ⟨by rw [hE]; decide, rfl⟩, Below.refl _ _⟩
      | true =>
        by_cases h16 : 16 < k
        · have hE : vecE f xs = 3 := by unfold vecE; rw [hr, if_pos rfl, if_pos (by rw [hxl.out]; exact h16)]
          have h16' : (16 : Int) < (k : Int) := by omega
          go_wp2_with fail
          go_ret2
          exact ⟨_, by rw [hE]; rfl, .inl ⟨by rw [hE]; decide, rfl⟩, Below.refl _ _⟩
        · have hE : vecE f xs = 0 := by unfold vecE; rw [hr, if_pos rfl, if_neg (by rw [hxl.out]; exact h16)]
          have h16' : (k : Int) ≤ 16 := by omega
          have hmk := mkT k (by omega)
          have hall : ∀ j, j < k → nodeB (xs.getD j 0) = true := fun j hj => all_at xs j (by rw [hxl.out]; exact hj) (by simp at hr; simp; exact hr.2)
          have hf : nodeB f = true := by simp at hr; exact hr.1
          have HA := Lib.hid hall
          have hMs : (madeCells #[Value.string ByteArray.empty] k).size = k := size_madeCells _ _
          generalize madeCells #[Value.string ByteArray.empty] k = M at hmk hMs
          have hown0 : Hid ((w.alloc (.cells M 9)).ownsRow w.heap.size 9 1 (.slice (some ⟨w.heap.size, 0, none⟩) 0 k) 0 (((tagsOf seed f text xs).take 0).map Value.string)) :=
            Lib.hid ⟨by simp, .inr ⟨w.heap.size, k, M, rfl, Nat.le_refl _, heap_alloc_new w _, by omega, by unfold maxLen; omega, by omega, by simp⟩⟩
          have hTl : Hid ((tagsOf seed f text xs).length = k) := Lib.hid (by unfold tagsOf; rw [List.length_map]; exact hxl.out)
          have hTat : Hid (∀ j, j < k → (tagsOf seed f text xs).getD j ByteArray.empty = tagU seed f (xs.getD j 0) text) := Lib.hid (fun j hj => by
            unfold tagsOf tagU
            rw [hf, hall j hj]
            simp [List.getD_eq_getElem?_getD, show j < xs.length by rw [hxl.out]; exact hj])
          obtain ⟨T, hT⟩ : ∃ T, T = tagsOf seed f text xs := ⟨_, rfl⟩
          rw [← hT] at hown0 hTl hTat
          have HT0 := Lib.hid hT
          clear hT
          clear hall hMs
          go_wp2_with fail
          go_loopw [13, 44] (fun v i wr => ∃ j : Nat, j ≤ k ∧ i = .int .i64 j ∧ wr.ownsRow w.heap.size 9 1 v j ((T.take j).map Value.string) ∧ Below w.heap.size w wr) (fun _ i _ => k - (intOf i).toNat)
          case atStart => exact ⟨0, by omega, rfl, hown0.out, (Below.refl _ _).alloc (Nat.le_refl _) _⟩
          case round =>
            obtain ⟨j, hj, rfl, hown, hbel⟩ := hrel
            have hz := hbel.size
            by_cases hjt : j < k
            · obtain ⟨b, off, rfl, hbl, hcs⟩ := H.out.at j hjt
              have hc := (hbel.cell (p := ⟨b, off + j, none⟩) hbl).trans (hcs j hjt)
              have HTj := HT (xs.getD j 0)
              have hTj := hTat.out j hjt
              have htk : Hid (T.take (j + 1) = T.take j ++ [T.getD j ByteArray.empty]) := Lib.hid (take_succ_T T j (by rw [hTl.out]; exact hjt))
              rw [hTj] at htk
              generalize tagU seed f (xs.getD j 0) text = x at HTj htk
              generalize pairE f (xs.getD j 0) = r at HTj
              generalize xs.getD j 0 = y at hc HTj
              have n0 : 0 ≤ (j : Int) := by omega
              have n1 : (j : Int) < (k : Int) := by omega
              clear hcs hTj hmk
              go_wp2_with fail
              refine (HTj wr).out.mono ?_
              rintro e w2 ⟨rfl, hb2⟩
              have hbel2 := hbel.trans (hb2.mono hz)
              have hown2 := hown.kept (row := none) (only_of_below hb2 none) (by cases hn : Value.ownBlock _ <;> simp)
              have hz2 := hbel2.size
              clear hown hbel hz hc hb2
              go_wp2_with (at_builtin; go_must (refine app_lit rfl (.tmp 56) (.tmp 58) 22 9 rfl info_str Try.underlying22 rfl w w2 w.heap.size w.heap.size (Nat.le_refl _) hz2 hbel2 _ _ _ (by rfl) hown2 _ 1 1 (by rfl) (by rfl) (by intro u hu; simp at hu; subst hu; rfl) (by omega) (by unfold maxLen; omega) ?_); go_must (intro v1 w9 hown1 hbel1 _ _); clear hown2 hbel2 hz2)
              have hown3 : w9.ownsRow w.heap.size 9 1 v1 (j + 1) ((T.take (j + 1)).map Value.string) := by
                rw [htk.out, List.map_append]
                exact hown1
              clear hown1
              go_wp2_with fail
              exact ⟨⟨_, _, _, _, _, ⟨j + 1, by omega, by go_num, by rw [← List.map_take]; exact hown3⟩, rfl, rfl, rfl, rfl, rfl⟩, by simp [intOf]; omega⟩
            · obtain rfl : j = k := by omega
              rw [List.take_of_length_le (by rw [hTl.out]; exact Nat.le_refl _)] at hown
              go_wp2_with fail
              go_ret2
              refine ⟨_, by rw [hE]; rfl, .inr ⟨hE, by rw [← HT0.out, hTl.out]; omega, ?_⟩, hbel⟩
              rw [← HT0.out, hTl.out]
              exact hown
end Go.Proofs.Ytlpfajiigkjooaa
