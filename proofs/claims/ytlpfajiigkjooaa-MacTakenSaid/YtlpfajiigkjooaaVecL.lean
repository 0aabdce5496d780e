/- Lists that come in, copied; SameTexts of two tag lists, SameInts of a copy and its list. No condition. -/
import Derived.Test.YtlpfajiigkjooaaRefV
import Derived.Laws.AppendOwnNone
namespace Go.Proofs.Ytlpfajiigkjooaa
open Go.RowKit
set_option linter.unusedVariables false
set_option linter.unusedSimpArgs false

/-- append(nil, l...) of ints. -/
theorem app_ints {ops : Array Oper} {rest : List Oper} {o : Oper} {a : Act} {Q : Exit → Act → World → Prop} (hgd : o.guard = none) (s x : Operand)
    (ho : o.op = .call { callee := .builtin .append, args := #[s, x], argTypes := #[42, 42] })
    (w : World) (A : Option Addr) (n c : Nat) (xs : List Int) (h : Ints w A n c xs) (hn : n * 8 ≤ 140737488351232) (hs : a.eval s = .slice none 0 0) (hx : a.eval x = .slice A n c)
    (hk : ∀ v' w', w'.ownsRow w.heap.size 3 1 v' n (xs.map (Value.int .i64)) → Below w.heap.size w w' → wpList Try.prog ops Q rest (a.put o.dst v') w') :
    wpList Try.prog ops Q (o :: rest) a w := by
  obtain ⟨i0, hi0, hz0, hz1, hz2⟩ := info_parts info_int
  have hxl := h.1
  cases A with
  | none =>
    obtain ⟨rfl, rfl⟩ := h.2.2.2.1 rfl
    have hx0 : xs = [] := List.length_eq_zero_iff.1 hxl
    subst hx0
    refine wpList_append_own_none hgd s x 42 ho w.heap.size 3 i0 1 Try.underlying42 hi0 (.slice none 0 0) 0 [] hs (World.ownsRow_nil _ _ _ _) hx ?_
    exact hk _ _ (World.ownsRow_nil _ _ _ _) (Below.refl _ _)
  | some ad =>
    obtain ⟨b, off, h1, h2⟩ := h.2.2.2.2 ad rfl
    refine wpList_append_own w hgd s x 42 ho w.heap.size 3 i0 _ 1 8 Try.underlying42 hi0 hz0 hz1 hz2 rfl (by decide) (.slice none 0 0) 0 [] hs (World.ownsRow_nil _ _ _ _) ad n c (xs.map (Value.int .i64)) hx (by simp [hxl]) ?_ ?_ (by unfold maxLen; omega) (by omega) (Nat.le_refl _) ?_
    · intro j u hj
      have hjl : j < n := by have := (List.getElem?_eq_some_iff.1 hj).1; simpa [hxl] using this
      obtain ⟨rfl, _⟩ := h1 (by omega)
      have hadd : (⟨b, off, none⟩ : Addr).add j = ⟨b, off + j, none⟩ := by unfold Addr.add; split <;> simp_all
      rw [hadd, h2 j hjl]
      rw [List.getElem?_map] at hj
      obtain ⟨y, hy, rfl⟩ := Option.map_eq_some_iff.1 hj
      simp [List.getD_eq_getElem?_getD, hy]
    · intro u hu
      obtain ⟨y, _, rfl⟩ := List.mem_map.1 hu
      rfl
    · intro v' w' hown hg _
      rw [Nat.zero_add] at hown
      exact hk v' w' hown ((Below.refl _ _).grown hg (Nat.le_refl _) (fun k hk => by cases hk))

/-- SameInts at two slices with the same ints. -/
theorem sameints_any (A A' : Option Addr) (n c c' : Nat) (xs : List Int) (w : World) (h : Ints w A n c xs) (h' : Ints w A' n c' xs) :
    Calls Try.prog 30 #[.slice A n c, .slice A' n c'] w fun e w' => e = .returned (.bool true) ∧ Below w.heap.size w w' := by
  have H := Lib.hid h
  have H' := Lib.hid h'
  have hn63 : n ≤ 9223372036854775807 := Nat.le_trans h.2.1 h.2.2.1
  have hnc := h.2.1
  have hnc' := h'.2.1
  clear h h'
  go_enter Try.func30, Try.ntmps30
  go_wp2_with fail
  go_loopw [5] (fun i wr => ∃ k : Nat, k ≤ n ∧ i = .int .i64 k ∧ Below w.heap.size w wr) (fun i _ => n - (intOf i).toNat)
  case atStart => exact ⟨0, by omega, rfl, Below.refl _ _⟩
  case round =>
    obtain ⟨k, hk, rfl, hbel⟩ := hrel
    by_cases hlt : k < n
    · obtain ⟨b, off, rfl, hbl, hcs⟩ := H.out.at k hlt
      obtain ⟨b', off', rfl, hbl', hcs'⟩ := H'.out.at k hlt
      have hca := (hbel.cell (p := ⟨b, off + k, none⟩) hbl).trans (hcs k hlt)
      have hcb := (hbel.cell (p := ⟨b', off' + k, none⟩) hbl').trans (hcs' k hlt)
      generalize xs.getD k 0 = x at hca hcb
      have n3 : 0 ≤ (k : Int) := by omega
      have n4 : (k : Int) < (n : Int) := by omega
      clear hcs hcs'
      go_wp2_with fail
      go_quiet (fail)
      go_wp2_with fail
      exact ⟨⟨k + 1, by omega, by go_num, ⟨hbel.os, hbel.tape, hbel.output, hbel.size, hbel.block⟩⟩, by simp [intOf]; omega⟩
    · obtain rfl : k = n := by omega
      go_wp2_with fail
      go_ret
      exact ⟨rfl, hbel⟩
/-- SameTexts at two slices of no text. -/
theorem sametexts_zero (A A' : Option Addr) (c c' : Nat) (w : World) :
    Calls Try.prog 51 #[.slice A 0 c, .slice A' 0 c'] w fun e w' => e = .returned (.bool true) ∧ Below w.heap.size w w' := by
  go_enter Try.func51, Try.ntmps51
  go_wp2_with fail
  go_loopw [5] (fun i wr => i = .int .i64 0 ∧ w = wr) (fun i _ => 0)
  case atStart => exact ⟨rfl, rfl⟩
  case round =>
    obtain ⟨rfl, rfl⟩ := hrel
    go_wp2_with fail
    go_ret
    exact ⟨rfl, Below.refl _ _⟩

/-- What a list of tags looks like. -/
def TagsAt (w : World) (E : Int) (T : List ByteArray) (v : Value) : Prop :=
  ∃ A n c, v = .slice A n c ∧ n ≤ c ∧ n ≤ 16 ∧ n = (if E = 0 then T.length else 0) ∧ (0 < n → ∃ g, A = some ⟨g, 0, none⟩ ∧ g < w.heap.size ∧ ∀ j, j < n → w.cell? ⟨g, j, none⟩ = some (.string (T.getD j ByteArray.empty)))
theorem VecR.tags {w : World} {B : Nat} {E : Int} {T : List ByteArray} {v : Value} (h : VecR w B E T v) : TagsAt w E T v := by
  rcases h with ⟨hE, rfl⟩ | ⟨hE, h16, hown⟩
  · exact ⟨none, 0, 0, rfl, Nat.le_refl _, by omega, by rw [if_neg hE], fun h => by omega⟩
  · by_cases h0 : 0 < T.length
    · obtain ⟨g, c, rfl, _, hg⟩ := hown.form h0
      refine ⟨_, _, c, rfl, ?_, h16, by rw [if_pos hE], fun _ => ⟨g, rfl, hg, fun j hj => ?_⟩⟩
      · rcases hown.2 with ⟨h', _⟩ | ⟨g', cap', cur, h', _, _, hnc, _⟩
        · simp at h'
        · simp only [Value.slice.injEq, Option.some.injEq, Addr.mk.injEq, and_true, true_and] at h'
          omega
      · rw [hown.cellAt j (by omega)]
        simp [List.getElem?_eq_getElem hj, List.getD_eq_getElem?_getD]
    · have h0' : T.length = 0 := by omega
      rcases hown.2 with ⟨rfl, _⟩ | ⟨g', cap', cur, rfl, _⟩
      · exact ⟨none, 0, 0, rfl, Nat.le_refl _, by omega, by rw [if_pos hE, h0'], fun h => by omega⟩
      · exact ⟨_, _, _, rfl, by omega, by omega, by rw [if_pos hE], fun h => by omega⟩
theorem TagsAt.keep {w w' : World} {E : Int} {T : List ByteArray} {v : Value} (h : TagsAt w E T v) (hb : Below w.heap.size w w') : TagsAt w' E T v := by
  obtain ⟨A, n, c, rfl, hc, h16, hn, h1⟩ := h
  refine ⟨A, n, c, rfl, hc, h16, hn, fun h0 => ?_⟩
  obtain ⟨g, rfl, hg, hcs⟩ := h1 h0
  exact ⟨g, rfl, Nat.lt_of_lt_of_le hg hb.size, fun j hj => (hb.cell (p := ⟨g, j, none⟩) hg).trans (hcs j hj)⟩
theorem sametexts_tags (E : Int) (T : List ByteArray) (v v' : Value) (w : World) (h : TagsAt w E T v) (h' : TagsAt w E T v') :
    Calls Try.prog 51 #[v, v'] w fun e w' => e = .returned (.bool true) ∧ Below w.heap.size w w' := by
  obtain ⟨A, n, c, rfl, hc, h16, hn, h1⟩ := h
  obtain ⟨A', n', c', rfl, hc', _, hn', h1'⟩ := h'
  obtain rfl : n = n' := by omega
  by_cases h0 : 0 < n
  · obtain ⟨g, rfl, hg, hcs⟩ := h1 h0
    obtain ⟨g', rfl, hg', hcs'⟩ := h1' h0
    have hl : T.length = n := by
      by_cases hE : E = 0
      · rw [if_pos hE] at hn; omega
      · rw [if_neg hE] at hn; omega
    exact sametexts_any g c g' c' n T hl (by omega) w hg hg' hcs hcs'
  · obtain rfl : n = 0 := by omega
    exact sametexts_zero A A' c c' w
end Go.Proofs.Ytlpfajiigkjooaa
