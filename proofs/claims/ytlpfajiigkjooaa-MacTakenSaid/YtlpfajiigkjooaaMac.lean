/- mac.padded: a key as a block of sixty-four bytes. Condition: the key takes at most 4,096 bytes. -/
import Derived.Test.YtlpfajiigkjooaaLawK
import Derived.Test.YtlpfajiigkjooaaRefSum
import Derived.Test.YtlpfajiigkjooaaBel
import Derived.Great.BuildSlice
import Derived.Lib.BufferWrite
import Derived.Laws.Rows
namespace Go.Proofs.Ytlpfajiigkjooaa
open Go.RowKit Go.Great
set_option linter.unusedVariables false
set_option linter.unusedSimpArgs false

/-- The key that is taken: a long one's digest. -/
def kb (key : ByteArray) : ByteArray := if 64 < key.size then dig key else key
theorem kb_size (key : ByteArray) : (kb key).size ≤ 64 := by
  unfold kb
  split
  · rw [dig_size]; omega
  · omega
/-- A key as a block. -/
def padK (key : ByteArray) : List UInt8 := (kb key).data.toList ++ List.replicate (64 - (kb key).size) 0
theorem padK_length (key : ByteArray) : (padK key).length = 64 := by
  have h := kb_size key
  have h2 : (kb key).data.toList.length = (kb key).size := Array.length_toList
  unfold padK
  rw [List.length_append, List.length_replicate, h2]
  omega
/-- Bytes as an array's cells. -/
def arrB (l : List UInt8) : Array Value := (Lib.byteCells l).toArray
theorem arrB_size (l : List UInt8) : (arrB l).size = l.length := by simp [arrB, Lib.byteCells_length]
theorem arrB_one (l : List UInt8) : (arrB l).all (·.oneCell') = true := by
  rw [Array.all_eq_true']
  intro v hv
  exact byteCells_one l v (by simpa [arrB] using hv)
theorem arrB_at (l : List UInt8) (j : Nat) (h : j < l.length) : (arrB l)[j]? = some (.int .u8 ((l.getD j 0).toNat : Int)) := by
  simp [arrB, Lib.byteCells, h, List.getD_eq_getElem?_getD]

theorem wp_copy_str {P : Program} {ops : Array Oper} {rest : List Oper} {o : Oper} {a : Act} {w : World} {Q : Exit → Act → World → Prop} (hgd : o.guard = none) (d s : Operand) (dT sT : TypeId)
    (ho : o.op = .call { callee := .builtin .copy, args := #[d, s], argTypes := #[dT, sT] }) (elem : TypeId) (hu : P.underlying dT = some (.slice elem)) (hs : (P.info? elem).map (·.size) = some 1)
    (g dLen dCap : Nat) (x : ByteArray) (cur : Array Value) (t : TypeId) (hd : a.eval d = .slice (some ⟨g, 0, none⟩) dLen dCap) (hx : a.eval s = .string x)
    (hg : w.heap[g]? = some (.cells cur t (0, 0))) (hle : x.size ≤ dLen) (hfit : x.size ≤ cur.size)
    (h : wpList P ops Q rest (a.put o.dst (goInt x.size)) (w.setRow g (Lib.byteCells x.data.toList ++ cur.toList.drop x.size).toArray)) : wpList P ops Q (o :: rest) a w := by
  refine wpList_plain hgd fun _ hK => ?_
  have hrun := Lib.run_copy_row_string (P := P) w dT sT o.type elem g 0 dLen dCap x cur t hu hs hg hle (by omega)
  simp only [List.take_zero, List.nil_append, Nat.zero_add] at hrun
  unfold Oper.wp
  simp [execOp, ho, resolve, invoke, builtin, hd, hx, hrun, Result.andThen]
  exact hK _ _ h

/-- The world under a letter, at a list of operations. -/
theorem wpl_world {P : Program} {ops : Array Oper} {l : List Oper} {Q : Exit → Act → World → Prop} {a : Act} {w : World} (I : World → Prop) (h : I w) (k : ∀ w', I w' → wpList P ops Q l a w') : wpList P ops Q l a w := k w h
/-- Sixty-four bytes 0. -/
def zs : Array Value := (List.replicate 64 (Value.int .u8 0)).toArray
theorem zs_size : zs.size = 64 := by simp [zs]
theorem pad_row (x : ByteArray) (h : x.size ≤ 64) : (Lib.byteCells x.data.toList ++ zs.toList.drop x.size).toArray = arrB (x.data.toList ++ List.replicate (64 - x.size) 0) := by
  unfold arrB zs
  rw [Lib.byteCells_append]
  congr 2
  show List.drop x.size (List.replicate 64 (Value.int .u8 0)) = (List.replicate (64 - x.size) (0 : UInt8)).map _
  rw [List.drop_replicate, List.map_replicate]
  rfl

set_option maxRecDepth 100000 in
set_option maxHeartbeats 400000 in
theorem padded_short (key : ByteArray) (hk : key.size ≤ 64) (w : World) :
    Calls Try.prog 58 #[.string key] w fun e w' => e = .returned (.agg (arrB (padK key))) ∧ Below w.heap.size w w' := by
  have hk' : (key.size : Int) ≤ 64 := by omega
  have hkk : kb key = key := by unfold kb; rw [if_neg (by omega)]
  have hpr := pad_row key hk
  have HE : Hid (arrB (padK key) = arrB (key.data.toList ++ List.replicate (64 - key.size) 0)) := Lib.hid (by unfold padK; rw [hkk])
  have HS : Hid ((arrB (padK key)).size = 64) := Lib.hid (by rw [arrB_size, padK_length])
  have H1 : Hid ((arrB (padK key)).all (·.oneCell') = true) := Lib.hid (arrB_one _)
  rw [← HE.out] at hpr
  generalize arrB (padK key) = A at hpr HS H1 HE ⊢
  clear HE hkk
  have hsz1 : (Try.prog.info? 5).map (·.size) = some 1 := by kernel_rfl
  have hsz64 : (Try.prog.info? 74).map (·.size) = some A.size := by rw [HS.out]; kernel_rfl
  have hr : ((w.alloc (.cells zs 74)).alloc (.cells zs 74)).heap[w.heap.size + 1]? = some (.cells zs 74 (0, 0)) := by
    have h := heap_alloc_new (w.alloc (.cells zs 74)) (.cells zs 74)
    rw [show (w.alloc (.cells zs 74)).heap.size = w.heap.size + 1 by simp] at h
    exact h
  have hr1 := setRow_heap ((w.alloc (.cells zs 74)).alloc (.cells zs 74)) (w.heap.size + 1) zs A 74 (0, 0) hr
  have hr0 : (((w.alloc (.cells zs 74)).alloc (.cells zs 74)).setRow (w.heap.size + 1) A).heap[w.heap.size]? = some (.cells zs 74 (0, 0)) := (setRow_other _ _ _ _ (by omega)).trans ((Below.heap_alloc (w.alloc (.cells zs 74)) _ _ (by simp)).trans (heap_alloc_new w _))
  have hB1 : Below w.heap.size w (((w.alloc (.cells zs 74)).alloc (.cells zs 74)).setRow (w.heap.size + 1) A) := below_setRow (((Below.refl _ _).alloc (Nat.le_refl _) _).alloc (by simp) _) (by omega) _
  have Hr := Lib.hid hr
  have Hr1 := Lib.hid hr1
  have Hr0 := Lib.hid hr0
  have HB1 := Lib.hid hB1
  have Hpr := Lib.hid hpr
  clear hr hr1 hr0 hB1 hpr
  go_enter Try.func58, Try.ntmps58
  go_wp2_with (first
    | (refine wp_copy_str rfl (.tmp 10) (.tmp 11) 30 9 rfl 5 Try.underlying30 hsz1 (w.heap.size + 1) 64 64 key zs 74 rfl rfl Hr.out hk (by rw [zs_size]; exact hk) ?_
       rw [Hpr.out]
       refine wpl_world (fun W => W.heap[w.heap.size + 1]? = some (.cells A 74 (0, 0)) ∧ W.heap[w.heap.size]? = some (.cells zs 74 (0, 0)) ∧ Below w.heap.size w W) ⟨Hr1.out, Hr0.out, HB1.out⟩ ?_
       rintro W ⟨hr1, hr0, hB1⟩
       have hr1 := Lib.hid hr1
       have hr0 := Lib.hid hr0)
    | (refine load_part rfl 74 (.tmp 3) rfl (w.heap.size + 1) 0 rfl A _ Try.underlying74 rfl hsz64 (fun j v hj => by rw [Nat.zero_add, cell_of_row _ _ _ _ _ (0, 0) hr1.out]; simpa using hj) ?_)
    | (refine wpList_store_rowTo rfl 74 (.tmp 2) (.tmp 13) rfl rfl w.heap.size A rfl rfl 74 zs hr0.out hsz64 (by rw [zs_size, HS.out]) H1.out ?_))
  have hrow := setRow_heap W w.heap.size zs A 74 (0, 0) hr0.out
  exact bodyPost_ret (v := .agg A) (results_cell_row rfl _ _ w.heap.size 74 A (0, 0) _ rfl hrow Try.underlying74 rfl hsz64) rfl ⟨rfl, below_setRow hB1 (Nat.le_refl _) _⟩

set_option maxRecDepth 100000 in
set_option maxHeartbeats 400000 in
theorem padded_long (key : ByteArray) (hk : 64 < key.size) (hk4 : key.size ≤ 4096) (w : World) :
    Calls Try.prog 58 #[.string key] w fun e w' => e = .returned (.agg (arrB (padK key))) ∧ Below w.heap.size w w' := by
  have hk' : (64 : Int) < (key.size : Int) := by omega
  have hkk : kb key = dig key := by unfold kb; rw [if_pos hk]
  have hd32 := dig_size key
  have hSum : Calls Try.prog 22 #[.slice (some ⟨w.heap.size + 1 + 1, 0, none⟩) 1 1] (((w.alloc (.cells zs 74)).alloc (.cells zs 74)).alloc (.cells #[.string key] 9)) fun e w' => e = .returned (.string (dig key)) ∧ Below (w.heap.size + 1 + 1) ((w.alloc (.cells zs 74)).alloc (.cells zs 74)) w' := by
    have h := sum_one key ((w.alloc (.cells zs 74)).alloc (.cells zs 74)) hk4
    rw [show ((w.alloc (.cells zs 74)).alloc (.cells zs 74)).heap.size = w.heap.size + 1 + 1 by simp] at h
    exact h
  have HE : Hid (arrB (padK key) = arrB ((dig key).data.toList ++ List.replicate (64 - (dig key).size) 0)) := Lib.hid (by unfold padK; rw [hkk])
  have hpr := pad_row (dig key) (by omega)
  have HS : Hid ((arrB (padK key)).size = 64) := Lib.hid (by rw [arrB_size, padK_length])
  have H1 : Hid ((arrB (padK key)).all (·.oneCell') = true) := Lib.hid (arrB_one _)
  rw [← HE.out] at hpr
  generalize arrB (padK key) = A at hpr HS H1 HE ⊢
  clear HE hkk
  generalize dig key = d at hd32 hSum hpr
  have HSum := Lib.hid hSum
  clear hSum
  have hsz1 : (Try.prog.info? 5).map (·.size) = some 1 := by kernel_rfl
  have hsz64 : (Try.prog.info? 74).map (·.size) = some A.size := by rw [HS.out]; kernel_rfl
  have hr : ((w.alloc (.cells zs 74)).alloc (.cells zs 74)).heap[w.heap.size + 1]? = some (.cells zs 74 (0, 0)) := by
    have h := heap_alloc_new (w.alloc (.cells zs 74)) (.cells zs 74)
    rw [show (w.alloc (.cells zs 74)).heap.size = w.heap.size + 1 by simp] at h
    exact h
  have hrr : ((w.alloc (.cells zs 74)).alloc (.cells zs 74)).heap[w.heap.size]? = some (.cells zs 74 (0, 0)) := (Below.heap_alloc (w.alloc (.cells zs 74)) _ _ (by simp)).trans (heap_alloc_new w _)
  have hBB : Below w.heap.size w ((w.alloc (.cells zs 74)).alloc (.cells zs 74)) := ((Below.refl _ _).alloc (Nat.le_refl _) _).alloc (by simp) _
  have HBB := Lib.hid hBB
  have Hrr := Lib.hid hrr
  have Hr := Lib.hid hr
  have Hpr := Lib.hid hpr
  clear hr hpr hrr hBB
  go_enter Try.func58, Try.ntmps58
  go_wp2_with (go_at_call 22; refine HSum.out.mono ?_)
  rintro e w2 ⟨rfl, hb2⟩
  have hr2 : w2.heap[w.heap.size + 1]? = some (.cells zs 74 (0, 0)) := (hb2.block _ (by omega)).trans Hr.out
  have hr3 : w2.heap[w.heap.size]? = some (.cells zs 74 (0, 0)) := (hb2.block _ (by omega)).trans Hrr.out
  have Hr1 := Lib.hid (setRow_heap w2 (w.heap.size + 1) zs A 74 (0, 0) hr2)
  have Hr0 := Lib.hid ((setRow_other w2 (w.heap.size + 1) w.heap.size A (by omega)).trans hr3)
  have HB1 := Lib.hid (below_setRow (HBB.out.trans (hb2.mono (by omega))) (show w.heap.size ≤ w.heap.size + 1 by omega) A)
  have Hr2 := Lib.hid hr2
  clear hr2 hr3 hb2
  go_wp2_with (first
    | (refine wp_copy_str rfl (.tmp 10) (.tmp 11) 30 9 rfl 5 Try.underlying30 hsz1 (w.heap.size + 1) 64 64 d zs 74 rfl rfl Hr2.out (by omega) (by rw [zs_size]; omega) ?_
       rw [Hpr.out]
       refine wpl_world (fun W => W.heap[w.heap.size + 1]? = some (.cells A 74 (0, 0)) ∧ W.heap[w.heap.size]? = some (.cells zs 74 (0, 0)) ∧ Below w.heap.size w W) ⟨Hr1.out, Hr0.out, HB1.out⟩ ?_
       rintro W ⟨hr1, hr0, hB1⟩
       have hr1 := Lib.hid hr1
       have hr0 := Lib.hid hr0)
    | (refine load_part rfl 74 (.tmp 3) rfl (w.heap.size + 1) 0 rfl A _ Try.underlying74 rfl hsz64 (fun j v hj => by rw [Nat.zero_add, cell_of_row _ _ _ _ _ (0, 0) hr1.out]; simpa using hj) ?_)
    | (refine wpList_store_rowTo rfl 74 (.tmp 2) (.tmp 13) rfl rfl w.heap.size A rfl rfl 74 zs hr0.out hsz64 (by rw [zs_size, HS.out]) H1.out ?_))
  have hrow := setRow_heap W w.heap.size zs A 74 (0, 0) hr0.out
  exact bodyPost_ret (v := .agg A) (results_cell_row rfl _ _ w.heap.size 74 A (0, 0) _ rfl hrow Try.underlying74 rfl hsz64) rfl ⟨rfl, below_setRow hB1 (Nat.le_refl _) _⟩

theorem padded_any (key : ByteArray) (hk : key.size ≤ 4096) (w : World) :
    Calls Try.prog 58 #[.string key] w fun e w' => e = .returned (.agg (arrB (padK key))) ∧ Below w.heap.size w w' := by
  rcases Nat.lt_or_ge 64 key.size with h | h
  · exact padded_long key h hk w
  · exact padded_short key h w
end Go.Proofs.Ytlpfajiigkjooaa
