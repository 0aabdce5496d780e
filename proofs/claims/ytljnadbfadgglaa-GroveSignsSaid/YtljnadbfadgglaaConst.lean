/- The sixty-four constants, of the program and of the reference. No condition. -/
import Derived.Test.YtljnadbfadgglaaKit
import Derived.Test.YtljnadbfadgglaaRot
import Derived.Laws.Tables
import Derived.Great.BuildSlice
namespace Go.Proofs.Ytljnadbfadgglaa
open Go.RowKit Go.Great
set_option maxRecDepth 100000

def kZ : List Int := Sha.K.map u
/-- K as cells. -/
def kArr : Array Value := (kZ.map (Value.int .u32)).toArray

def z64 : Array Value := #[.int .u32 0, .int .u32 0, .int .u32 0, .int .u32 0, .int .u32 0, .int .u32 0, .int .u32 0, .int .u32 0, .int .u32 0, .int .u32 0, .int .u32 0, .int .u32 0, .int .u32 0, .int .u32 0, .int .u32 0, .int .u32 0, .int .u32 0, .int .u32 0, .int .u32 0, .int .u32 0, .int .u32 0, .int .u32 0, .int .u32 0, .int .u32 0, .int .u32 0, .int .u32 0, .int .u32 0, .int .u32 0, .int .u32 0, .int .u32 0, .int .u32 0, .int .u32 0, .int .u32 0, .int .u32 0, .int .u32 0, .int .u32 0, .int .u32 0, .int .u32 0, .int .u32 0, .int .u32 0, .int .u32 0, .int .u32 0, .int .u32 0, .int .u32 0, .int .u32 0, .int .u32 0, .int .u32 0, .int .u32 0, .int .u32 0, .int .u32 0, .int .u32 0, .int .u32 0, .int .u32 0, .int .u32 0, .int .u32 0, .int .u32 0, .int .u32 0, .int .u32 0, .int .u32 0, .int .u32 0, .int .u32 0, .int .u32 0, .int .u32 0, .int .u32 0]
theorem below_setRow {B : Nat} {w w' : World} (h : Below B w w') {g : Nat} (hg : B ≤ g) (cs : Array Value) : Below B w (w'.setRow g cs) :=
  h.trans ⟨rfl, rfl, rfl, by simp, fun k hk => setRow_other w' g k cs (by omega)⟩

set_option maxRecDepth 100000 in
set_option maxHeartbeats 400000 in
theorem consts_any (w : World) : Calls Try.prog 89 #[] w fun e w' => e = .returned (.agg kArr) ∧ Below w.heap.size w w' := by
  go_enter Try.func89, Try.ntmps89
  go_wp2_with (first
    | (refine wpList_buildFlatArrTo rfl 129 127 64 _ rfl .u32 kZ (some 1) rfl Try.underlying129 (by as_aux_lemma => kernel_rfl) (by as_aux_lemma => kernel_rfl) (by as_aux_lemma => kernel_rfl) ?_
       show wpList _ _ _ _ (Act.put _ _ (.agg kArr)) _
       generalize hA : kArr = A)
    | (refine wpList_store_rowTo rfl 129 (.tmp 0) (.tmp 1) rfl rfl w.heap.size A rfl rfl 129 _ (heap_alloc_new _ _) (by rw [← hA]; kernel_rfl) (by rw [← hA]; kernel_rfl) (by rw [← hA]; kernel_rfl) ?_))
  have hrow : ((w.alloc (.cells z64 129)).setRow w.heap.size A).heap[w.heap.size]? = some (.cells A 129 (0, 0)) := setRow_heap _ _ _ _ _ _ (heap_alloc_new _ _)
  refine bodyPost_ret (v := .agg A) (results_cell_row rfl _ _ w.heap.size 129 A (0, 0) _ rfl hrow Try.underlying129 rfl (by rw [← hA]; kernel_rfl)) rfl ⟨ret_val (by rw [hA]), below_setRow ((Below.refl _ _).alloc (Nat.le_refl _) _) (Nat.le_refl _) _⟩

set_option maxRecDepth 100000 in
set_option maxHeartbeats 400000 in
theorem refconsts_any (w : World) : Calls Try.prog 91 #[] w fun e w' => e = .returned (.slice (some ⟨w.heap.size, 0, none⟩) 64 64) ∧ w' = w.alloc (.cells kArr 127) := by
  go_enter Try.func91, Try.ntmps91
  go_wp2_with (refine wpList_buildFlat rfl 133 127 64 _ rfl .u32 kZ Try.underlying133 (by as_aux_lemma => kernel_rfl) (by as_aux_lemma => kernel_rfl) rfl (by decide) (by decide) (by as_aux_lemma => kernel_rfl) ?_)
  go_ret
  exact ⟨rfl, rfl⟩
/-- A literal of an array or a struct, to a value that the kernel reckons. -/
theorem build_to {P : Program} {ops : Array Oper} {rest : List Oper} {o : Oper} {a : Act} {w : World} {Q : Exit → Act → World → Prop} (hg : o.guard = none) (t : TypeId) (parts : Array (Nat × Operand)) (ho : o.op = .build t parts) (cs : Array Value)
    (hb : P.built t (parts.map fun (i, x) => (i, a.eval x)).toList = some cs) (h : wpList P ops Q rest (a.put o.dst (.agg cs)) w) : wpList P ops Q (o :: rest) a w :=
  wpList_build hg t parts ho (by rw [hb]; rfl) (by rw [hb]; exact h)
/-- A whole array or struct loaded out of the middle of a block. -/
theorem load_part {P : Program} {ops : Array Oper} {rest : List Oper} {o : Oper} {a : Act} {w : World} {Q : Exit → Act → World → Prop} (hgd : o.guard = none) (ty : TypeId) (x : Operand) (ho : o.op = .load ty x)
    (b off : Nat) (hx : a.eval x = .pointer (some ⟨b, off, none⟩)) (cs : Array Value) (d : TypeDesc)
    (hu : P.underlying ty = some d) (hd : (match d with | .struct _ | .array _ _ => true | _ => false) = true) (hi : (P.info? ty).map (·.size) = some cs.size)
    (hc : ∀ j v, cs.toList[j]? = some v → w.cell? ⟨b, off + j, none⟩ = some v)
    (h : wpList P ops Q rest (a.put o.dst (.agg cs)) w) : wpList P ops Q (o :: rest) a w := by
  refine wpList_plain hgd fun _ hK => ?_
  have hl : (loadCells ⟨b, off, none⟩ cs.toList.length).run P w = .ok cs.toList.toArray w :=
    run_loadCells_list (P := P) w ⟨b, off, none⟩ cs.toList (fun j v hv => by
      have hadd : (⟨b, off, none⟩ : Addr).add j = ⟨b, off + j, none⟩ := by unfold Addr.add; split <;> simp_all
      rw [hadd]
      exact hc j v hv)
  have hrun : (loadVar ty ⟨b, off, none⟩).run P w = .ok (.agg cs) w := by
    cases hq : P.info? ty with
    | none => simp [hq] at hi
    | some i =>
      have hs : i.size = cs.size := by simpa [hq] using hi
      have hagg : (isAgg ty).run P w = .ok true w := by
        unfold isAgg
        rw [Sem.run_bind, run_underlying hu w]
        cases d <;> simp_all
      simp only [Array.length_toList, Array.toArray_toList] at hl
      simp [loadVar, Sem.run_bind, hagg, sizeOf, typeInfo, hq, hs, hl]
  unfold Oper.wp execOp
  simp only [ho, hx, Instr.loadAt, Instr.sureAddr, Sem.run_bind, Sem.run_pure, Result.andThen_ok, hrun]
  exact hK _ _ h
theorem H0_agg : (#[.int .u32 1779033703, .int .u32 3144134277, .int .u32 1013904242, .int .u32 2773480762, .int .u32 1359893119, .int .u32 2600822924, .int .u32 528734635, .int .u32 1541459225] : Array Value) = #[.int .u32 (u Sha.H0.a), .int .u32 (u Sha.H0.b), .int .u32 (u Sha.H0.c), .int .u32 (u Sha.H0.d), .int .u32 (u Sha.H0.e), .int .u32 (u Sha.H0.f), .int .u32 (u Sha.H0.g), .int .u32 (u Sha.H0.h)] := by kernel_rfl
end Go.Proofs.Ytljnadbfadgglaa
