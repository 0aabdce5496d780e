/- mac.Mac: a text's MAC under a key. Condition: the key takes at most 4,096 bytes, the text 8,192. -/
import Derived.Test.YtlpfajiigkjooaaMac
import Derived.Test.YtlpfajiigkjooaaKey
namespace Go.Proofs.Ytlpfajiigkjooaa
open Go.RowKit Go.Great
set_option linter.unusedVariables false
set_option linter.unusedSimpArgs false

def xk (c : UInt8) (l : List UInt8) : List UInt8 := l.map (· ^^^ c)
/-- The first k bytes turned. -/
def xTo (c : UInt8) (l : List UInt8) (k : Nat) : List UInt8 := (l.take k).map (· ^^^ c) ++ l.drop k
theorem xTo_all (c : UInt8) (l : List UInt8) (k : Nat) (h : l.length ≤ k) : xTo c l k = xk c l := by
  unfold xTo xk; rw [List.take_of_length_le h, List.drop_of_length_le h, List.append_nil]
theorem xTo_length (c : UInt8) (l : List UInt8) (k : Nat) : (xTo c l k).length = l.length := by
  unfold xTo; rw [List.length_append, List.length_map, List.length_take, List.length_drop]; omega
theorem xTo_at (c : UInt8) (l : List UInt8) (k : Nat) (h : k < l.length) : (xTo c l k).getD k 0 = l.getD k 0 := by
  unfold xTo
  rw [List.getD_eq_getElem?_getD, List.getElem?_append_right (by simp; omega), List.getD_eq_getElem?_getD, List.getElem?_drop]
  congr 2
  rw [List.length_map, List.length_take]
  omega
theorem xTo_succ (c : UInt8) (l : List UInt8) (k : Nat) (h : k < l.length) : xTo c l (k + 1) = (xTo c l k).set k (l.getD k 0 ^^^ c) := by
  apply List.ext_getElem?
  intro j
  have h1 : (xTo c l (k + 1))[j]? = if j < k + 1 then (l[j]?).map (· ^^^ c) else l[j]? := by
    unfold xTo
    split
    · rename_i hj
      rcases Nat.lt_or_ge j l.length with hl | hl
      · rw [List.getElem?_append_left (by simp; omega), List.getElem?_map, List.getElem?_take, if_pos hj]
      · rw [List.getElem?_append_right (by simp; omega), List.getElem?_drop]
        simp [List.getElem?_eq_none hl]
        omega
    · rename_i hj
      rw [List.getElem?_append_right (by simp; omega), List.getElem?_drop, List.length_map, List.length_take]
      congr 1
      omega
  have h2 : (xTo c l k)[j]? = if j < k then (l[j]?).map (· ^^^ c) else l[j]? := by
    unfold xTo
    split
    · rename_i hj
      rcases Nat.lt_or_ge j l.length with hl | hl
      · rw [List.getElem?_append_left (by simp; omega), List.getElem?_map, List.getElem?_take, if_pos hj]
      · rw [List.getElem?_append_right (by simp; omega), List.getElem?_drop]
        simp [List.getElem?_eq_none hl]
        omega
    · rename_i hj
      rw [List.getElem?_append_right (by simp; omega), List.getElem?_drop, List.length_map, List.length_take]
      congr 1
      omega
  rw [h1, List.getElem?_set, h2, xTo_length]
  by_cases e : k = j
  · subst e
    simp [h, List.getD_eq_getElem?_getD]
  · rw [if_neg e]
    by_cases hj : j < k
    · rw [if_pos (by omega), if_pos hj]
    · rw [if_neg (by omega), if_neg hj]
theorem arrB_set (l : List UInt8) (k : Nat) (b : UInt8) : (arrB l).setIfInBounds k (.int .u8 (b.toNat : Int)) = arrB (l.set k b) := by
  unfold arrB Lib.byteCells
  rw [List.setIfInBounds_toArray, ← List.map_set]
theorem xor54 (b : UInt8) : bits .xor .u8 (b.toNat : Int) 54 = ((b ^^^ 54).toNat : Int) := by
  have h : ∀ n : Fin 256, bits .xor .u8 (((UInt8.ofNat n.val).toNat : Nat) : Int) 54 = ((UInt8.ofNat n.val ^^^ 54).toNat : Int) := by decide +kernel
  have := h ⟨b.toNat, b.toNat_lt⟩
  simpa using this
theorem xor92 (b : UInt8) : bits .xor .u8 (b.toNat : Int) 92 = ((b ^^^ 92).toNat : Int) := by
  have h : ∀ n : Fin 256, bits .xor .u8 (((UInt8.ofNat n.val).toNat : Nat) : Int) 92 = ((UInt8.ofNat n.val ^^^ 92).toNat : Int) := by decide +kernel
  have := h ⟨b.toNat, b.toNat_lt⟩
  simpa using this

/-- The standard's MAC. -/
def macK (key text : ByteArray) : ByteArray := dig (bs (xk 92 (padK key)) ++ dig (bs (xk 54 (padK key)) ++ text))
theorem macK_size (key text : ByteArray) : (macK key text).size = 32 := dig_size _
theorem xk_length (c : UInt8) (l : List UInt8) : (xk c l).length = l.length := by simp [xk]

theorem arr_conv (W : World) (b : Nat) (l : List UInt8) (hl : l.length = 64) (t : TypeId) (fr : Nat × Nat) (h : W.heap[b]? = some (.cells (arrB l) t fr)) :
    (convert 30 9 (.slice (some ⟨b, 0, none⟩) 64 64)).run Try.prog W = .ok (.string (bs l)) W := by
  have := run_convert_bytes_back (P := Try.prog) W 30 9 5 ⟨b, 0, none⟩ 64 l Try.underlying30 Try.underlying5 Try.underlying9 (fun j hj => by
    have e : (⟨b, 0, none⟩ : Addr).add j = ⟨b, j, none⟩ := by unfold Addr.add; split <;> simp_all
    rw [e, cell_of_row W b j _ t fr h, arrB_at l j hj]
    simp [List.getD_eq_getElem?_getD, hj])
  rw [hl] at this
  exact this

set_option maxRecDepth 100000 in
set_option maxHeartbeats 1000000 in
theorem mac_any (key text : ByteArray) (hk : key.size ≤ 4096) (ht : text.size ≤ 8192) (w : World) :
    Calls Try.prog 37 #[.string key, .string text] w fun e w' => e = .returned (.string (macK key text)) ∧ Below w.heap.size w w' := by
  have HP := Lib.hid (padded_any key hk w)
  have hl := padK_length key
  have HE : Hid (macK key text = dig (bs (xk 92 (padK key)) ++ dig (bs (xk 54 (padK key)) ++ text))) := Lib.hid rfl
  generalize padK key = l at HP hl HE
  have hsz : (arrB l).size = 64 := by rw [arrB_size, hl]
  clear hk
  go_enter Try.func37, Try.ntmps37
  go_wp2_with fail
  refine HP.out.mono ?_
  rintro e w1 ⟨rfl, hb1⟩
  clear HP
  obtain ⟨A, hA⟩ : ∃ A, A = arrB l := ⟨_, rfl⟩
  have h1 : Hid (A.all (·.oneCell') = true) := Lib.hid (by rw [hA]; exact arrB_one l)
  rw [← hA] at hsz ⊢
  have HA := Lib.hid hA
  clear hA
  have hz0 := hb1.size
  have hsz64 : (Try.prog.info? 74).map (·.size) = some A.size := by rw [hsz]; kernel_rfl
  have hr1 : Hid (((w1.alloc (.cells zs 74)).setRow w1.heap.size A).heap[w1.heap.size]? = some (.cells A 74 (0, 0))) := Lib.hid (setRow_heap _ _ _ _ _ _ (heap_alloc_new w1 _))
  have hB1 : Hid (Below w.heap.size w ((w1.alloc (.cells zs 74)).setRow w1.heap.size A)) := Lib.hid (below_setRow (hb1.alloc hz0 _) hz0 _)
  clear hb1
  go_wp2_with (first
    | (refine wpList_store_rowTo rfl 74 (.tmp 5) (.tmp 9) rfl rfl w1.heap.size A rfl rfl 74 zs (heap_alloc_new w1 _) hsz64 (by rw [zs_size, hsz]) h1.out ?_
       refine wpl_world (fun W => W.heap[w1.heap.size]? = some (.cells A 74 (0, 0)) ∧ Below w.heap.size w W ∧ w1.heap.size < W.heap.size) ⟨hr1.out, hB1.out, by simp⟩ ?_
       rintro W ⟨hr2, hB2, hlt2⟩
       have hr2 := Lib.hid hr2)
    | (refine load_part rfl 74 (.tmp 5) rfl w1.heap.size 0 rfl A _ Try.underlying74 rfl hsz64 (fun j v hj => by rw [Nat.zero_add, cell_of_row _ _ _ _ _ (0, 0) hr2.out]; simpa using hj) ?_)
    | (refine wpList_store_rowTo rfl 74 (.tmp 6) (.tmp 10) rfl rfl W.heap.size A rfl rfl 74 zs (heap_alloc_new W _) hsz64 (by rw [zs_size, hsz]) h1.out ?_
       refine wpl_world (fun V => V.heap[w1.heap.size]? = some (.cells A 74 (0, 0)) ∧ V.heap[W.heap.size]? = some (.cells A 74 (0, 0)) ∧ Below w.heap.size w V) ⟨(setRow_other _ _ _ _ (by omega)).trans ((Below.heap_alloc W _ _ hlt2).trans hr2.out), setRow_heap _ _ _ _ _ _ (heap_alloc_new W _), below_setRow (hB2.alloc (by omega) _) (by omega) _⟩ ?_
       rintro V ⟨hrV, hrV', hBV⟩
       have hrV := Lib.hid hrV
       have hrV' := Lib.hid hrV'))
  have HBV := Lib.hid hBV
  have hle1 : w.heap.size ≤ w1.heap.size := hz0
  clear hr1 hB1 hr2 hB2
  rw [HA.out] at hrV hrV'
  clear hsz64 hsz h1 HA hBV
  generalize w1.heap.size = ib at *
  generalize W.heap.size = ob at *
  have hne : ib ≠ ob := by omega
  have hne' : ob ≠ ib := by omega
  go_loopw [11] (fun i wr => ∃ k : Nat, k ≤ 64 ∧ i = .int .i64 k ∧ Hid (wr.heap[ib]? = some (.cells (arrB (xTo 54 l k)) 74 (0, 0))) ∧ Hid (wr.heap[ob]? = some (.cells (arrB (xTo 92 l k)) 74 (0, 0))) ∧ Below w.heap.size w wr) (fun i _ => 64 - (intOf i).toNat)
  case atStart => exact ⟨0, by omega, rfl, hrV, hrV', HBV.out⟩
  case round =>
    obtain ⟨k, hk, rfl, hi, ho, hbel⟩ := hrel
    by_cases hlt : k < 64
    · have n0 : 0 ≤ (k : Int) := by omega
      have n1 : (k : Int) < 64 := by omega
      have c1 : wr.cell? ⟨ib, k, none⟩ = some (.int .u8 ((l.getD k 0).toNat : Int)) := by rw [cell_of_row wr ib k _ _ (0, 0) hi.out, arrB_at _ _ (by rw [xTo_length]; omega), xTo_at _ _ _ (by omega)]
      have c2 : wr.cell? ⟨ob, k, none⟩ = some (.int .u8 ((l.getD k 0).toNat : Int)) := by rw [cell_of_row wr ob k _ _ (0, 0) ho.out, arrB_at _ _ (by rw [xTo_length]; omega), xTo_at _ _ _ (by omega)]
      have f1 : wr.frozen? ⟨ib, k, none⟩ = false := frozen_of_row wr ib k _ _ hi.out
      have f2 : wr.frozen? ⟨ob, k, none⟩ = false := frozen_of_row wr ob k _ _ ho.out
      have e1 := xTo_succ 54 l k (by omega)
      have e2 := xTo_succ 92 l k (by omega)
      have x1 := xor54 (l.getD k 0)
      have x2 := xor92 (l.getD k 0)
      generalize l.getD k 0 = b at c1 c2 e1 e2 x1 x2
      have E1 := Lib.hid e1
      have E2 := Lib.hid e2
      clear e1 e2
      go_wp2_with fail
      refine ⟨⟨k + 1, by omega, by go_num, ?_, ?_, (hbel.setCell (p := ⟨ib, k, none⟩) (by exact hle1) _).setCell (p := ⟨ob, k, none⟩) (by show w.heap.size ≤ ob; omega) _⟩, by simp [intOf]; omega⟩
      · refine Lib.hid ?_
        rw [Below.heap_setCell _ _ _ _ (by exact hne), heap_setCell_same wr ib k _ _ _ hi.out, E1.out, ← arrB_set, UInt8.toNat_xor]
        rfl
      · refine Lib.hid ?_
        have h2 : (wr.setCell ⟨ib, k, none⟩ (.int .u8 ((b.toNat ^^^ 54 : Nat) : Int))).heap[ob]? = some (.cells (arrB (xTo 92 l k)) 74 (0, 0)) := (Below.heap_setCell _ _ _ _ (by exact hne')).trans ho.out
        rw [heap_setCell_same _ ob k _ _ _ h2, E2.out, ← arrB_set, UInt8.toNat_xor]
        rfl
    · obtain rfl : k = 64 := by omega
      rw [xTo_all _ _ _ (by omega)] at hi ho
      have hz := hbel.size
      have hl1 : (xk 54 l).length = 64 := by rw [xk_length, hl]
      have hl2 : (xk 92 l).length = 64 := by rw [xk_length, hl]
      have hib : ib < wr.heap.size := (Array.getElem?_eq_some_iff.1 hi.out).1
      have hob : ob < wr.heap.size := (Array.getElem?_eq_some_iff.1 ho.out).1
      have hcv1 : ∀ w', Below wr.heap.size wr w' → (convert 30 9 (.slice (some ⟨ob, 0, none⟩) 64 64)).run Try.prog w' = .ok (.string (bs (xk 92 l))) w' := fun w' hw => arr_conv w' ob _ hl2 74 (0, 0) ((hw.block ob hob).trans ho.out)
      have hcv2 : ∀ w', Below wr.heap.size wr w' → (convert 30 9 (.slice (some ⟨ib, 0, none⟩) 64 64)).run Try.prog w' = .ok (.string (bs (xk 54 l))) w' := fun w' hw => arr_conv w' ib _ hl1 74 (0, 0) ((hw.block ib hib).trans hi.out)
      have hx1 : (bs (xk 54 l)).size = 64 := by rw [bs_size, hl1]
      have hx2 : (bs (xk 92 l)).size = 64 := by rw [bs_size, hl2]
      generalize bs (xk 54 l) = p at *
      generalize bs (xk 92 l) = q at *
      have hd := dig_size (p ++ text)
      have HS1 := fun (b : Nat) (W : World) (hb : W.heap[b]? = some (.cells #[.string p, .string text] 9 (0, 0))) => Lib.hid (sum_blk [p, text] b 2 rfl W 9 hb (by omega) (by rw [cat_pair, ByteArray.size_append]; omega))
      have HS2 := fun (b : Nat) (W : World) (hb : W.heap[b]? = some (.cells #[.string q, .string (dig (p ++ text))] 9 (0, 0))) => Lib.hid (sum_blk [q, dig (p ++ text)] b 2 rfl W 9 hb (by omega) (by rw [cat_pair, ByteArray.size_append]; omega))
      simp only [cat_pair] at HS1 HS2
      generalize dig (p ++ text) = d at *
      clear hi ho hl1 hl2 hrV hrV' hx1 hx2 hl ht
      go_wp2_with fail
      go_region_held3 (fun w' => Below wr.heap.size wr w')
        (first
          | assumption
          | exact (Below.refl wr.heap.size wr).drew
          | exact ((Below.refl wr.heap.size wr).alloc (Nat.le_refl _) _).drew
          | exact hB2.alloc hB2.size _)
        ((first
          | (go_at_call_of 22 (wr.heap.size); refine (HS1 wr.heap.size _ (by exact heap_alloc_new wr _)).out.mono ?_; rintro e w2 ⟨rfl, hb2⟩; have hB2 : Below wr.heap.size wr w2 := (((Below.refl wr.heap.size wr).alloc (Nat.le_refl _) _).drew).trans (hb2.mono (by simp)))
          | (go_at_call 22; refine (HS2 w2.heap.size _ (by exact heap_alloc_new w2 _)).out.mono ?_; rw [← HE.out]; rintro e w3 ⟨rfl, hb3⟩; have hB3 : Below wr.heap.size wr w3 := (hB2.alloc hB2.size _).trans (hb3.mono (by have := hB2.size; simp; omega)))))
      go_wp2_with fail
      go_ret
      exact ⟨rfl, hbel.trans (hB3.mono hz)⟩
end Go.Proofs.Ytlpfajiigkjooaa
