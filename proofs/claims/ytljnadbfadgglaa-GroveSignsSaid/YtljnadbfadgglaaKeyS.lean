/- onetime.key with the steps of a text's digits: what Sign walks. Condition: the seed takes at most 4,096 bytes. -/
import Derived.Test.YtljnadbfadgglaaKey
namespace Go.Proofs.Ytljnadbfadgglaa
open Go.RowKit
set_option maxRecDepth 100000
set_option linter.unusedVariables false
set_option linter.unusedSimpArgs false

theorem sign1 (k : Nat) (hk : k < 35) (D : List Nat) (hD : D.length = 35) (g c db : Nat) (hc : 35 ≤ c) (w : World) (hdb : w.cell? ⟨db, 0, none⟩ = some (.slice (some ⟨g, 0, none⟩) 35 c)) (hI : HasI w g D) :
    Calls Try.prog 82 #[.int .i64 (k : Int), .pointer (some ⟨db, 0, none⟩)] w fun e w' => e = .returned (.int .i64 ((D.getD k 0 : Nat) : Int)) ∧ w = w' := by
  have hc := hI.2 k (by omega)
  have n1 : 0 ≤ (k : Int) := by omega
  have n2 : (k : Int) < 35 := by omega
  generalize D.getD k 0 = n at hc ⊢
  go_enter Try.func82, Try.ntmps82
  go_wp2_with fail
  go_ret
  exact ⟨rfl, rfl⟩

set_option maxHeartbeats 1000000 in
theorem key_sign (seed : ByteArray) (hs : seed.size ≤ 4096) (leaf : Nat) (hl : leaf ≤ 255) (D : List Nat) (hD : D.length = 35) (hle : ∀ j, D.getD j 0 ≤ 15) (g c db : Nat) (hc : 35 ≤ c) (w : World) (hdl : db < w.heap.size) (hdb : w.cell? ⟨db, 0, none⟩ = some (.slice (some ⟨g, 0, none⟩) 35 c)) (hI : HasI w g D) :
    Calls Try.prog 77 #[.string seed, .int .i64 (leaf : Int), .func (.func 82) #[] #[.pointer (some ⟨db, 0, none⟩)]] w fun e w' => e = .returned (.string (bs (keyB seed leaf (fun i => D.getD i 0) 35))) ∧ Below w.heap.size w w' := by
  have HD := Lib.hid hD
  have HLE := Lib.hid hle
  have HI := Lib.hid hI
  have HDB := Lib.hid hdb
  clear hD hle hI hdb
  go_enter Try.func77, Try.ntmps77
  go_wp2_with fail
  go_loopw [9] (fun i wr => ∃ k : Nat, k ≤ 35 ∧ i = .int .i64 k ∧ Lib.IsBuilder 119 5 w.heap.size w.heap.size (Lib.byteCells (keyB seed leaf (fun i => D.getD i 0) k)) wr ∧ Below w.heap.size w wr) (fun i _ => 35 - (intOf i).toNat)
  case atStart => exact ⟨0, by omega, rfl, Lib.fresh_isBuilder _ _ w, (Below.refl _ _).alloc (Nat.le_refl _) _⟩
  case round =>
    obtain ⟨k, hk, rfl, hbu, hbel⟩ := hrel
    have hz := hbel.size
    by_cases hlt : k < 35
    · have n1 : (k : Int) < 35 := by omega
      have q1 : IntKind.u8.wrap (leaf : Int) = (leaf : Int) := by rw [IntKind.wrap_u8]; omega
      have q2 : IntKind.u8.wrap (k : Int) = (k : Int) := by rw [IntKind.wrap_u8]; omega
      have hcv : ∀ W : World, (convert 84 9 (.slice (some ⟨W.heap.size, 0, none⟩) 2 2)).run Try.prog (W.alloc (.cells #[.int .u8 (leaf : Int), .int .u8 (k : Int)] 5)).drew = .ok (.string (two leaf k)) (W.alloc (.cells #[.int .u8 (leaf : Int), .int .u8 (k : Int)] 5)).drew := fun W =>
        two_conv _ _ _ leaf k hl (by omega) (fun j hj => (cell_of_row (W.alloc (.cells #[.int .u8 (leaf : Int), .int .u8 (k : Int)] 5)) _ _ _ _ _ (heap_alloc_new W _)).trans (by
          have : j = 0 ∨ j = 1 := by omega
          rcases this with rfl | rfl <;> rfl))
      have hsum : Hid (Calls Try.prog 52 #[.slice (some ⟨wr.heap.size + 1, 0, none⟩) 2 2] (((wr.alloc (.cells #[.int .u8 (leaf : Int), .int .u8 (k : Int)] 5)).alloc (.cells #[.string seed, .string (two leaf k)] 9)).drew) fun e w' => e = .returned (.string (dig (seed ++ two leaf k))) ∧ Below wr.heap.size wr w') := Lib.hid (sum_two seed leaf k hs wr)
      have hstep := fun w : World => Lib.hid (step_any (beg seed leaf k) (by rw [beg_size]; omega) ((D.getD k 0 : Nat) : Int) (D.getD k 0) (by have := HLE.out k; omega) w)
      have hd := dig_size (seed ++ two leaf k)
      have hclo := fun (w' : World) (hb : Below wr.heap.size wr w') => Lib.hid (sign1 k hlt D HD.out g c db hc w' ((hb.cell (p := ⟨db, 0, none⟩) (Nat.lt_of_lt_of_le hdl hz)).trans ((hbel.cell (p := ⟨db, 0, none⟩) hdl).trans HDB.out)) ((HI.out.keep hbel).keep hb))
      have HS := Lib.hid (keyB_succ seed leaf (fun i => D.getD i 0) k)
      have HL := Lib.hid (keyB_length seed leaf (fun i => D.getD i 0) k)
      have Hz := Lib.hid (step_size (beg seed leaf k) (beg_size seed leaf k) (D.getD k 0))
      change ∀ w : World, Hid (Calls Try.prog 85 #[.string ((dig (seed ++ two leaf k)).extract 0 16), .int .i64 ((D.getD k 0 : Nat) : Int)] w fun e w' => e = .returned (.string (stepN (beg seed leaf k) (D.getD k 0))) ∧ Below w.heap.size w w') at hstep
      generalize dig (seed ++ two leaf k) = d at hsum hstep hd
      change Hid (keyB seed leaf (fun i => D.getD i 0) (k + 1) = keyB seed leaf (fun i => D.getD i 0) k ++ (stepN (beg seed leaf k) (D.getD k 0)).data.toList) at HS
      generalize stepN (beg seed leaf k) (D.getD k 0) = x at hstep HS Hz
      generalize keyB seed leaf (fun i => D.getD i 0) k = l at hbu HS HL
      generalize D.getD k 0 = n at hclo hstep
      clear hs hl
      go_wp2_with fail
      go_region_with ((first
        | (go_at_call 52; refine hsum.out.mono ?_; rintro e w2 ⟨rfl, hb2⟩)
        | (go_at_call 82; refine (hclo _ hb2).out.mono ?_; rintro e w3 ⟨rfl, rfl⟩)
        | (go_at_call 85; refine (hstep _).out.mono ?_; rintro e w4 ⟨rfl, hb4⟩)
        | (go_at_call 84; refine (write_any w.heap.size w.heap.size l x _ (builder_keep (builder_keep hbu hb2) (hb4.mono (Nat.le_refl _))) ?_ ?_).mono ?_; (rw [HL.out, Hz.out]; omega); (have := hb2.size; have := hb4.size; omega); rintro e w5 ⟨rfl, hbu5, hb5⟩)))
      have hz5 := hb2.size
      have hz6 := hb4.size
      have hbel5 := ((hbel.trans (hb2.mono hz)).trans (hb4.mono (by omega))).trans hb5
      rw [← HS.out] at hbu5
      clear hsum hstep hcv HS HL hbu hclo
      go_wp2_with fail
      exact ⟨⟨k + 1, by omega, by go_num, hbu5, hbel5⟩, by simp [intOf]; omega⟩
    · obtain rfl : k = 35 := by omega
      have HB := Lib.hid (Try.Builder_String_any w.heap.size w.heap.size _ wr hbu hz)
      obtain ⟨l, hll⟩ : ∃ l, l = keyB seed leaf (fun i => D.getD i 0) 35 := ⟨_, rfl⟩
      rw [← hll] at HB
      have Hll := Lib.hid hll
      clear hbu hll
      go_wp2_with fail
      refine HB.out.mono ?_
      rintro e w2 ⟨rfl, hb2⟩
      go_wp2_with fail
      go_ret
      exact ⟨by rw [← Hll.out]; rfl, hbel.trans hb2⟩

theorem leafy_yes (n : Int) (h0 : 0 ≤ n) (h1 : n ≤ 255) (w : World) : Calls Try.prog 76 #[.int .i64 n] w fun e w' => e = .returned (.bool true) ∧ w = w' := by
  go_enter Try.func76, Try.ntmps76
  go_wp2_with fail
  go_ret
  exact ⟨rfl, rfl⟩
theorem leafy_no (n : Int) (h : n < 0 ∨ 255 < n) (w : World) : Calls Try.prog 76 #[.int .i64 n] w fun e w' => e = .returned (.bool false) ∧ w = w' := by
  rcases h with h | h
  · go_enter Try.func76, Try.ntmps76
    go_wp2_with fail
    go_ret
    exact ⟨rfl, rfl⟩
  · have h0 : 0 ≤ n := by omega
    go_enter Try.func76, Try.ntmps76
    go_wp2_with fail
    go_ret
    refine ⟨?_, rfl⟩
    show Ending.returned (.bool (decide (n ≤ 255))) = _
    rw [decide_eq_false (by omega)]

/-- A public key. -/
def pubK (seed : ByteArray) (leaf : Nat) : ByteArray := dig (bs (keyB seed leaf (fun _ => 15) 35))
/-- A signature. -/
def sigK (seed : ByteArray) (leaf : Nat) (text : ByteArray) : ByteArray := bs (keyB seed leaf (fun i => (dg text).getD i 0) 35)

theorem public_no (seed : ByteArray) (n : Int) (h : n < 0 ∨ 255 < n) (w : World) :
    Calls Try.prog 43 #[.string seed, .int .i64 n] w fun e w' => e = .returned (.tuple #[.string ⟨#[]⟩, .int .i64 1]) ∧ w = w' := by
  have HN := fun w : World => Lib.hid (leafy_no n h w)
  go_enter Try.func43, Try.ntmps43
  go_wp2_with fail
  refine (HN w).out.mono ?_
  rintro e w1 ⟨rfl, rfl⟩
  go_wp2_with fail
  go_ret2
  exact ⟨rfl, rfl⟩
theorem public_yes (seed : ByteArray) (hs : seed.size ≤ 4096) (leaf : Nat) (hl : leaf ≤ 255) (w : World) :
    Calls Try.prog 43 #[.string seed, .int .i64 (leaf : Int)] w fun e w' => e = .returned (.tuple #[.string (pubK seed leaf), .int .i64 0]) ∧ Below w.heap.size w w' := by
  have HN := fun w : World => Lib.hid (leafy_yes (leaf : Int) (by omega) (by omega) w)
  have HK := fun w : World => Lib.hid (key_pub seed hs leaf hl w)
  have HL : Hid ((bs (keyB seed leaf (fun _ => 15) 35)).size ≤ 4096) := Lib.hid (by rw [bs_size, keyB_length]; omega)
  have HE : Hid (pubK seed leaf = dig (bs (keyB seed leaf (fun _ => 15) 35))) := Lib.hid rfl
  generalize bs (keyB seed leaf (fun _ => 15) 35) = x at HK HL HE
  clear hs hl
  go_enter Try.func43, Try.ntmps43
  go_wp2_with fail
  refine (HN w).out.mono ?_
  rintro e w1 ⟨rfl, rfl⟩
  go_wp2_with fail
  refine (HK w).out.mono ?_
  rintro e w1 ⟨rfl, hb1⟩
  go_wp2_with fail
  refine (sum_one x w1 HL.out).mono ?_
  rw [← HE.out]
  rintro e w2 ⟨rfl, hb2⟩
  go_wp2_with fail
  go_ret2
  exact ⟨rfl, hb1.trans (hb2.mono hb1.size)⟩
theorem sign_no (seed : ByteArray) (n : Int) (h : n < 0 ∨ 255 < n) (text : ByteArray) (w : World) :
    Calls Try.prog 49 #[.string seed, .int .i64 n, .string text] w fun e w' => e = .returned (.tuple #[.string ⟨#[]⟩, .int .i64 1]) ∧ w = w' := by
  have HN := fun w : World => Lib.hid (leafy_no n h w)
  go_enter Try.func49, Try.ntmps49
  go_wp2_with fail
  refine (HN w).out.mono ?_
  rintro e w1 ⟨rfl, rfl⟩
  go_wp2_with fail
  go_ret2
  exact ⟨rfl, rfl⟩
theorem sign_yes (seed : ByteArray) (hs : seed.size ≤ 4096) (leaf : Nat) (hl : leaf ≤ 255) (text : ByteArray) (ht : text.size ≤ 4096) (w : World) :
    Calls Try.prog 49 #[.string seed, .int .i64 (leaf : Int), .string text] w fun e w' => e = .returned (.tuple #[.string (sigK seed leaf text), .int .i64 0]) ∧ Below w.heap.size w w' := by
  have hmf : ∀ (fn : Fn) (first cap : Array Value) (w : World), (Instr.makeFunc fn first cap).run Try.prog w = .ok (.func fn first cap) w := fun _ _ _ _ => rfl
  have HN := fun w : World => Lib.hid (leafy_yes (leaf : Int) (by omega) (by omega) w)
  have HD := fun w : World => Lib.hid (digits_c text ht w)
  have HK := fun (g c db : Nat) (hc : 35 ≤ c) (w : World) (hdl : db < w.heap.size) (hdb : w.cell? ⟨db, 0, none⟩ = some (.slice (some ⟨g, 0, none⟩) 35 c)) (hI : HasI w g (dg text)) => Lib.hid (key_sign seed hs leaf hl (dg text) (dg_length text) (dg_le text) g c db hc w hdl hdb hI)
  have HE : Hid (sigK seed leaf text = bs (keyB seed leaf (fun i => (dg text).getD i 0) 35)) := Lib.hid rfl
  generalize bs (keyB seed leaf (fun i => (dg text).getD i 0) 35) = x at HK HE
  clear hs hl ht
  go_enter Try.func49, Try.ntmps49
  go_wp2_with fail
  refine (HN w).out.mono ?_
  rintro e w1 ⟨rfl, rfl⟩
  go_wp2_with fail
  refine (HD w).out.mono ?_
  rintro e w1 ⟨g, c, rfl, hc, hg, hI, hb1⟩
  have HI := Lib.hid hI
  clear hI
  go_wp2_with fail
  refine (HK g c w1.heap.size hc _ (by simp) ?_ (HI.out.keep ((Below.refl _ _).alloc (Nat.le_refl _) _))).out.mono ?_
  · rw [cell_of_row _ _ _ _ _ _ (heap_alloc_new w1 _)]; rfl
  rw [← HE.out]
  rintro e w2 ⟨rfl, hb2⟩
  go_wp2_with fail
  go_ret2
  exact ⟨rfl, (hb1.alloc hb1.size _).trans (hb2.mono (by simp; have := hb1.size; omega))⟩
end Go.Proofs.Ytljnadbfadgglaa
