/- (*strings.Builder).copyCheck and WriteString at a builder of the call's own (this program's copyCheck is another text than the shelf's). Condition: the new length takes at most 2^47 bytes. -/
import Derived.Test.YtljnadbfadgglaaKit
import Derived.Lib.Builder
import Derived.Lib.AppendStr
import Derived.Laws.Externs
namespace Go.Proofs.Ytljnadbfadgglaa
open Go.RowKit
set_option maxRecDepth 100000
set_option linter.unusedVariables false
set_option linter.unusedSimpArgs false

theorem size_builder : (Try.prog.info? 119).map (·.size) = some 2 := by kernel_rfl
theorem lies_builder : liesAt Try.prog Try.prog.depth 119 (2 / Try.prog.cellsOf 119) 0 119 1 = true := by kernel_rfl

theorem check_used (b : Nat) (w : World) (h0 : w.cell? ⟨b, 0, none⟩ = some (.pointer (some ⟨b, 0, none⟩))) :
    Calls Try.prog 106 #[.pointer (some ⟨b, 0, none⟩)] w fun e w' => e = .returned (.tuple #[]) ∧ w' = w := by
  obtain ⟨j, hj, _⟩ := Option.map_eq_some_iff.1 size_builder
  have hne : ∀ w : World, (binOp .neq 117 (.pointer (some ⟨b, 0, none⟩)) (.pointer (some ⟨b, 0, none⟩))).run Try.prog w = .ok (.bool false) w := fun w => Lib.run_neq_ptr_same w _ Try.underlying117 hj
  go_enter Try.func106, Try.ntmps106
  go_wp2
  go_end0
  exact ⟨rfl, rfl⟩

theorem check_fresh (b : Nat) (w : World) (h0 : w.cell? ⟨b, 0, none⟩ = some (.pointer none)) (hsh : w.shape? b = some (119, 2)) (hfz : w.frozen? ⟨b, 0, none⟩ = false) :
    Calls Try.prog 106 #[.pointer (some ⟨b, 0, none⟩)] w fun e w' => e = .returned (.tuple #[]) ∧ w' = w.setCell ⟨b, 0, none⟩ (.pointer (some ⟨b, 0, none⟩)) := by
  obtain ⟨j, hj, hjs⟩ := Option.map_eq_some_iff.1 size_builder
  go_enter Try.func106, Try.ntmps106
  go_wp2
  rw [Lib.run_to_unsafe w ⟨b, 0, none⟩ Try.underlying117 Try.underlying154 hj (by rw [hjs]; decide) hsh (Nat.zero_lt_succ 1)]
  simp only [Result.andThen]
  rw [Oper.upon_value]
  go_wp2
  rw [run_callFunc_extern Try.func110 (by kernel_rfl) (by kernel_rfl) (by kernel_rfl) (e := Extern.AbiNoEscape.same) (by kernel_rfl)]
  rw [Lib.run_noEscape]
  simp only [Result.andThen]
  rw [Oper.upon_value]
  go_wp2
  rw [Lib.run_from_unsafe w ⟨b, 0, none⟩ Try.underlying154 Try.underlying117 hj hsh lies_builder]
  simp only [Result.andThen]
  rw [Oper.upon_value]
  go_wp2
  go_end0
  exact ⟨rfl, rfl⟩

/-- Every block of another type than bytes, but for b, is as it was. -/
def Far (b : Nat) (w w' : World) : Prop := ∀ g cs T fr, g ≠ b → T ≠ 5 → w.heap[g]? = some (.cells cs T fr) → w'.heap[g]? = some (.cells cs T fr)
theorem far_set (b : Nat) (p : Addr) (hp : p.block = b) (v : Value) (w : World) : Far b w (w.setCell p v) := fun g cs T fr hg _ h =>
  (Below.heap_setCell w p v g (by rw [hp]; exact hg)).trans h
theorem Far.trans {b : Nat} {w w1 w2 : World} (h : Far b w w1) (h' : Far b w1 w2) : Far b w w2 := fun g cs T fr hg hT hh => h' g cs T fr hg hT (h g cs T fr hg hT hh)

theorem check_any (B b : Nat) (xs : List Value) (w : World) (h : Lib.IsBuilder 119 5 B b xs w) :
    Calls Try.prog 106 #[.pointer (some ⟨b, 0, none⟩)] w fun e w' => e = .returned (.tuple #[]) ∧ (Lib.BuilderAt 119 5 B b (.pointer (some ⟨b, 0, none⟩)) xs w' ∧ Below B w w' ∧ Far b w w') := by
  rcases h with h | h
  · refine (check_fresh b w h.cell0 h.shape h.frozen0).mono ?_
    rintro e w' ⟨rfl, rfl⟩
    exact ⟨rfl, h.used _, (Below.refl B w).setCell (p := ⟨b, 0, none⟩) h.1 _, far_set b _ rfl _ w⟩
  · refine (check_used b w h.cell0).mono ?_
    rintro e w' ⟨rfl, rfl⟩
    exact ⟨rfl, h, Below.refl B _, fun _ _ _ _ _ _ h => h⟩

set_option maxHeartbeats 400000 in
theorem write_far (B b : Nat) (l : List UInt8) (s : ByteArray) (w : World) (h : Lib.IsBuilder 119 5 B b (Lib.byteCells l) w) (hlen : l.length + s.size ≤ 140737488355328) (hBw : B ≤ w.heap.size) :
    Calls Try.prog 84 #[.pointer (some ⟨b, 0, none⟩), .string s] w fun e w' => e = .returned (.tuple #[.int .i64 s.size, .nilIface]) ∧ (Lib.IsBuilder 119 5 B b (Lib.byteCells (l ++ s.data.toList)) w' ∧ Below B w w' ∧ Far b w w') := by
  obtain ⟨i0, hi, hz0, hz1, hz2⟩ := info_parts info_byte
  have hC := Lib.hid (check_any B b _ w h)
  clear h
  go_enter Try.func84, Try.ntmps84
  go_wp2_with (go_at_call 106; refine hC.out.mono ?_)
  rintro e w1 ⟨rfl, h1, hb1, hf1⟩
  obtain ⟨hB, v, hbk, hown, hne⟩ := h1
  rw [Lib.byteCells_length] at hown
  have c0 : w1.cell? ⟨b, 0, none⟩ = some (.pointer (some ⟨b, 0, none⟩)) := by rw [Lib.cell_of_heap hbk]; rfl
  have c1 : w1.cell? ⟨b, 1, none⟩ = some v := by rw [Lib.cell_of_heap hbk]; rfl
  go_wp2_with (at_builtin; refine Lib.wpList_append_own_string _ rfl _ _ 84 9 rfl B 5 i0 Try.underlying84 Try.underlying9 hi hz0 hz1 hz2 _ _ _ rfl hown s rfl ?c3 ?c4 ?c5 ?_)
  case c3 => unfold maxLen; omega
  case c4 => omega
  case c5 => have := hb1.size; omega
  intro v' w2 hown' hgrow _
  have hlt : b < w1.heap.size := by
    rcases Nat.lt_or_ge b w1.heap.size with h' | h'
    · exact h'
    · simp [Array.getElem?_eq_none h'] at hbk
  have hb2 : w2.heap[b]? = some (.cells #[.pointer (some ⟨b, 0, none⟩), v] 119 (0, 0)) := by
    rw [hgrow.block b hlt (fun e => hne e.symm)]
    exact hbk
  have d0 : w2.cell? ⟨b, 0, none⟩ = some (.pointer (some ⟨b, 0, none⟩)) := by rw [Lib.cell_of_heap hb2]; rfl
  have d1 : w2.cell? ⟨b, 1, none⟩ = some v := by rw [Lib.cell_of_heap hb2]; rfl
  have f1 : w2.frozen? ⟨b, 1, none⟩ = false := Lib.frozen_of_heap hb2 1
  obtain ⟨ao, n', cap, rfl⟩ : ∃ ao n' cap, v' = .slice ao n' cap := by
    rcases hown'.2 with ⟨hv, _⟩ | ⟨g, cap, cur, hv, _⟩
    · exact ⟨_, _, _, hv⟩
    · exact ⟨_, _, _, hv⟩
  have hown2 : w2.ownsRow B 5 1 (.slice ao n' cap) (Lib.byteCells (l ++ s.data.toList)).length (Lib.byteCells (l ++ s.data.toList)) := by
    rw [Lib.byteCells_length, List.length_append, Lib.byteCells_append, Array.length_toList]
    exact hown'
  clear hown'
  go_wp2
  go_ret2
  refine ⟨rfl, .inr ?_, ?_, ?_⟩
  · exact Lib.BuilderAt.put (T := 119) (e := 5) hB hb2 (bs' := Lib.byteCells (l ++ s.data.toList)) hown2 (by decide)
  · exact (hb1.grown hgrow (by have := hb1.size; omega) (fun k hk => (hown.lt k hk).1)).setCell (p := ⟨b, 1, none⟩) hB _
  · refine hf1.trans (Far.trans (fun g cs T fr hg hT hh => ?_) (far_set b ⟨b, 1, none⟩ rfl _ w2))
    rw [hgrow.block g (Array.getElem?_eq_some_iff.1 hh).1 (fun e => Lib.ownBlock_ne hown hh hT e.symm)]
    exact hh
theorem write_any (B b : Nat) (l : List UInt8) (s : ByteArray) (w : World) (h : Lib.IsBuilder 119 5 B b (Lib.byteCells l) w) (hlen : l.length + s.size ≤ 140737488355328) (hBw : B ≤ w.heap.size) :
    Calls Try.prog 84 #[.pointer (some ⟨b, 0, none⟩), .string s] w fun e w' => e = .returned (.tuple #[.int .i64 s.size, .nilIface]) ∧ (Lib.IsBuilder 119 5 B b (Lib.byteCells (l ++ s.data.toList)) w' ∧ Below B w w') :=
  (write_far B b l s w h hlen hBw).mono fun _ _ ⟨he, hb, hw, _⟩ => ⟨he, hb, hw⟩
end Go.Proofs.Ytljnadbfadgglaa
