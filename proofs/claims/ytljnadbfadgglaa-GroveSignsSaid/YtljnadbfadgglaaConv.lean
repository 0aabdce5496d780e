/- A text turned into bytes, and bytes of the call's own appended to it: what the slice then holds. -/
import Derived.Test.YtljnadbfadgglaaRot
import Derived.ArgAppend
import Derived.Laws.IdiomCopy
namespace Go.Proofs.Ytljnadbfadgglaa
open Go.RowKit
set_option maxRecDepth 100000

/-- The slice v holds the bytes l. -/
def HasB (w : World) (v : Value) (l : List UInt8) : Prop :=
  ∃ b off cap, v = .slice (some ⟨b, off, none⟩) l.length cap ∧ l.length ≤ cap ∧ b < w.heap.size ∧ ∀ i, i < l.length → w.cell? ⟨b, off + i, none⟩ = some (.int .u8 (u (byW l i)))
theorem byteCells_at (l : List UInt8) (i : Nat) (h : i < l.length) : (Lib.byteCells l)[i]? = some (.int .u8 (u (byW l i))) := by
  rw [u_byW]
  simp [Lib.byteCells, h, List.getD_eq_getElem?_getD]
theorem HasB.of_own {w : World} {base n : Nat} {v : Value} {l : List UInt8} (h : w.ownsRow base 5 1 v n (Lib.byteCells l)) (hn : 0 < n) : HasB w v l := by
  have hl : l.length = n := by have := h.1; simpa [Lib.byteCells_length] using this
  obtain ⟨g, cap, rfl, _, hlt⟩ := h.form hn
  have hc : n ≤ cap := by
    rcases h.2 with ⟨h', _⟩ | ⟨g', cap', cur, h', _, _, hnc, _⟩
    · simp at h'
    · simp only [Value.slice.injEq, Option.some.injEq, Addr.mk.injEq, and_true, true_and] at h'
      omega
  subst hl
  refine ⟨g, 0, cap, rfl, hc, hlt, fun i hi => ?_⟩
  rw [Nat.zero_add, h.cellAt i (by omega), byteCells_at l i hi]

theorem size_setCells_ (b : Nat) : ∀ (vs : List Value) (o : Nat) (w : World), (w.setCells b o vs).heap.size = w.heap.size
  | [], _, _ => rfl
  | v :: vs, o, w => by
    show ((w.setCell ⟨b, o, none⟩ v).setCells b (o + 1) vs).heap.size = _
    rw [size_setCells_ b vs (o + 1)]
    simp [World.setCell]
theorem below_setCells_ {B b : Nat} {a : World} (hb : B ≤ b) : ∀ (vs : List Value) (o : Nat) (w : World), Below B a w → Below B a (w.setCells b o vs)
  | [], _, _, h => h
  | v :: vs, o, w, h => by
    show Below B a ((w.setCell ⟨b, o, none⟩ v).setCells b (o + 1) vs)
    exact below_setCells_ hb vs (o + 1) _ (h.setCell (p := ⟨b, o, none⟩) hb v)

theorem app_conv {ops : Array Oper} {rest : List Oper} {o : Oper} {a : Act} {Q : Exit → Act → World → Prop} (hgd : o.guard = none) (s x : Operand)
    (ho : o.op = .call { callee := .builtin .append, args := #[s, x], argTypes := #[84, 84] })
    (W0 W : World) (hbel : Below W0.heap.size W0 W) (b cap fr : Nat) (l : List UInt8) (cur : Array Value) (hs : a.eval s = .slice (some ⟨b, 0, none⟩) l.length cap) (hb : W0.heap.size ≤ b)
    (hrow : W.heap[b]? = some (.cells cur 5 (fr, fr + 1))) (hfr : cap ≤ fr) (hsz : cap ≤ cur.size) (hcur : ∀ j, j < l.length → cur[j]? = some (.int .u8 (u (byW l j))))
    (base m : Nat) (v : Value) (news : List UInt8) (hx : a.eval x = v) (hown : W.ownsRow base 5 1 v m (Lib.byteCells news)) (hm : 0 < m) (hlen : l.length + m ≤ 1099511627776)
    (h : ∀ v' w', HasB w' v' (l ++ news) → Below W0.heap.size W0 w' → wpList Try.prog ops Q rest (a.put o.dst v') w') :
    wpList Try.prog ops Q (o :: rest) a W := by
  obtain ⟨i0, hi0, hz0, hz1, hz2⟩ := info_parts info_byte
  have hnl : news.length = m := by have := hown.1; simpa [Lib.byteCells_length] using this
  obtain ⟨g, cx, rfl, _, hglt⟩ := hown.form hm
  have hblt : b < W.heap.size := (Array.getElem?_eq_some_iff.1 hrow).1
  have hcell : ∀ j, W.cell? ⟨b, j, none⟩ = cur[j]? := fun j => cell_of_row W b j cur _ _ hrow
  have hold : ∀ j v, (Lib.byteCells l)[j]? = some v → W.cell? ⟨b, 0 + j, none⟩ = some v := by
    intro j v hj
    have hjl : j < l.length := by have := (List.getElem?_eq_some_iff.1 hj).1; simpa [Lib.byteCells_length] using this
    rw [byteCells_at l j hjl] at hj
    rw [Nat.zero_add, hcell, hcur j hjl, hj]
  have hspare : l.length + m ≤ cap → ∀ j, j < (Lib.byteCells news).length → (W.cell? ⟨b, 0 + l.length * 1 + j, none⟩).isSome = true ∧ W.frozen? ⟨b, 0 + l.length * 1 + j, none⟩ = false := by
    intro hr j hj
    rw [Lib.byteCells_length] at hj
    refine ⟨?_, ?_⟩
    · rw [hcell, Array.getElem?_eq_getElem (by omega)]; rfl
    · unfold World.frozen?
      rw [hrow]
      simp
      omega
  refine wpList_append_arg W hgd s x 84 ho 5 i0 (.int .u8 0) 1 1 Try.underlying84 hi0 hz0 hz1 hz2 rfl (by decide) b 0 l.length cap (Lib.byteCells l) hs (by rw [Lib.byteCells_length]; omega) hold
    ⟨g, 0, none⟩ m cx (Lib.byteCells news) hx (by rw [Lib.byteCells_length]; omega) (hown.cells (g := g) rfl) (byteCells_one _) hspare (by unfold maxLen; omega) (by omega) ?_ ?_
  · intro hr
    refine h _ _ ⟨b, 0, cap, by rw [List.length_append, hnl], by rw [List.length_append]; omega, by rw [size_setCells_]; exact hblt, fun i hi => ?_⟩ ?_
    · rw [List.length_append] at hi
      by_cases hil : i < l.length
      · rw [World.cell?_setCells_out _ _ _ _ _ (fun _ _ => .inl (by simp; omega)), Nat.zero_add, hcell, hcur i hil]
        congr 3
        unfold byW
        rw [List.getD_eq_getElem?_getD, List.getD_eq_getElem?_getD, List.getElem?_append_left hil]
      · have hj := World.cell?_setCells_in b (Lib.byteCells news) (0 + l.length * 1) W (fun j hj => (hspare hr j hj).1) (i - l.length) (by rw [Lib.byteCells_length]; omega)
        rw [show 0 + l.length * 1 + (i - l.length) = 0 + i by omega] at hj
        rw [hj]
        have := byteCells_at news (i - l.length) (by omega)
        rw [List.getElem?_eq_getElem (by rw [Lib.byteCells_length]; omega)] at this
        injection this with this
        rw [this]
        congr 3
        unfold byW
        rw [List.getD_eq_getElem?_getD, List.getD_eq_getElem?_getD, List.getElem?_append_right (by omega)]
    · exact below_setCells_ hb _ _ _ hbel
  · intro _ v' w' hown' hg
    have e : Lib.byteCells l ++ Lib.byteCells news = Lib.byteCells (l ++ news) := (Lib.byteCells_append _ _).symm
    rw [e] at hown'
    exact h v' w' (HasB.of_own hown' (by omega)) (hbel.grown hg hbel.size (fun k hk => by cases hk))
end Go.Proofs.Ytljnadbfadgglaa
