/- onetime.Recover and its reference. Condition: the text takes at most 4,096 bytes. -/
import Derived.Test.YtljnadbfadgglaaRefS
import Derived.Test.YtljnadbfadgglaaShelf
namespace Go.Proofs.Ytljnadbfadgglaa
open Go.RowKit
set_option maxRecDepth 100000
set_option linter.unusedVariables false
set_option linter.unusedSimpArgs false

/-- What the first k ends are. -/
def recB (D : List Nat) (sig : ByteArray) (k : Nat) : List UInt8 := (List.range k).flatMap fun i => (stepN (sig.extract (16 * i) (16 * (i + 1))) (15 - D.getD i 0)).data.toList
theorem recB_succ (D : List Nat) (sig : ByteArray) (k : Nat) : recB D sig (k + 1) = recB D sig k ++ (stepN (sig.extract (16 * k) (16 * (k + 1))) (15 - D.getD k 0)).data.toList := by
  unfold recB; rw [List.range_succ, List.flatMap_append]; simp
theorem part_size (sig : ByteArray) (h : sig.size = 560) (k : Nat) (hk : k < 35) : (sig.extract (16 * k) (16 * (k + 1))).size = 16 := by rw [ByteArray.size_extract, h]; omega
theorem recB_length (D : List Nat) (sig : ByteArray) (h : sig.size = 560) : ∀ k, k ≤ 35 → (recB D sig k).length = 16 * k
  | 0, _ => by simp [recB]
  | k + 1, hk => by rw [recB_succ, List.length_append, recB_length D sig h k (by omega), data_length, step_size _ (part_size sig h k (by omega))]; omega
/-- What a signature leads to. -/
def recK (text sig : ByteArray) : ByteArray := dig (bs (recB (dg text) sig 35))

/-- The block in which a text's digits lie is one of ints. -/
def HasT (w : World) (g : Nat) : Prop := ∃ cs fr, w.heap[g]? = some (.cells cs 3 fr)
theorem digits_t (s : ByteArray) (hs : s.size ≤ 4096) (w : World) :
    Calls Try.prog 81 #[.string s] w fun e w' => ∃ g c, e = .returned (.slice (some ⟨g, 0, none⟩) 35 c) ∧ 35 ≤ c ∧ w.heap.size ≤ g ∧ HasI w' g (dg s) ∧ HasT w' g ∧ Below w.heap.size w w' :=
  (digits_any s hs w).mono fun e w' ⟨v, he, hown, hb⟩ => by
    obtain ⟨g, c, rfl, hc, hg, hI⟩ := HasI.of_own hown (by decide)
    refine ⟨g, c, he, hc, hg, hI, ?_, hb⟩
    rcases hown.2 with ⟨h', _⟩ | ⟨g', cap', cur, h', _, hh, _⟩
    · simp at h'
    · simp only [Value.slice.injEq, Option.some.injEq, Addr.mk.injEq, and_true, true_and] at h'
      rw [← h'.1] at hh
      exact ⟨_, _, hh⟩
theorem cell_block {w w' : World} {g j : Nat} (h : w'.heap[g]? = w.heap[g]?) : w'.cell? ⟨g, j, none⟩ = w.cell? ⟨g, j, none⟩ := World.cell?_of_block h

theorem recover_no (text sig : ByteArray) (h : sig.size ≠ 560) (w : World) :
    Calls Try.prog 51 #[.string text, .string sig] w fun e w' => e = .returned (.tuple #[.string ⟨#[]⟩, .bool false]) ∧ w = w' := by
  have h' : ¬ ((sig.size : Int) = 560) := by omega
  go_enter Try.func51, Try.ntmps51
  go_wp2_with fail
  go_ret2
  exact ⟨rfl, rfl⟩
theorem refrecover_no (text sig : ByteArray) (h : sig.size ≠ 560) (w : World) :
    Calls Try.prog 53 #[.string text, .string sig] w fun e w' => e = .returned (.tuple #[.string ⟨#[]⟩, .bool false]) ∧ w = w' := by
  have h' : ¬ ((sig.size : Int) = 560) := by omega
  go_enter Try.func53, Try.ntmps53
  go_wp2_with fail
  go_ret2
  exact ⟨rfl, rfl⟩

set_option maxHeartbeats 400000 in
theorem recover_yes (text : ByteArray) (ht : text.size ≤ 4096) (sig : ByteArray) (h : sig.size = 560) (w : World) :
    Calls Try.prog 51 #[.string text, .string sig] w fun e w' => e = .returned (.tuple #[.string (recK text sig), .bool true]) ∧ Below w.heap.size w w' := by
  have h' : (sig.size : Int) = 560 := by omega
  have HD := fun w : World => Lib.hid (digits_t text ht w)
  have HDl := Lib.hid (dg_length text)
  have HDe := Lib.hid (dg_le text)
  have HE : Hid (recK text sig = dig (bs (recB (dg text) sig 35))) := Lib.hid rfl
  generalize dg text = D at HE HD HDl HDe
  have HL := Lib.hid (recB_length D sig h)
  clear ht
  go_enter Try.func51, Try.ntmps51
  go_wp2_with fail
  refine (HD _).out.mono ?_
  rintro e wd ⟨gd, cd, rfl, hcd, hgd, hId, ⟨csd, frd, hTd⟩, hbd⟩
  have HId := Lib.hid hId
  have hbu0 : Hid (Lib.IsBuilder 119 5 w.heap.size w.heap.size (Lib.byteCells (recB D sig 0)) wd) := Lib.hid (builder_keep (Lib.fresh_isBuilder _ _ w) hbd)
  have hb0 : Hid (Below w.heap.size w wd) := Lib.hid (((Below.refl _ _).alloc (Nat.le_refl _) _).trans (hbd.mono (by simp)))
  have hzd : w.heap.size + 1 ≤ wd.heap.size := by have := hbd.size; simpa using this
  simp at hgd
  have hgb : gd ≠ w.heap.size := by omega
  have HTd := Lib.hid hTd
  clear hId hbd hTd
  go_wp2_with fail
  go_loopw [15] (fun i wr => ∃ k : Nat, k ≤ 35 ∧ i = .int .i64 k ∧ Lib.IsBuilder 119 5 w.heap.size w.heap.size (Lib.byteCells (recB D sig k)) wr ∧ Below w.heap.size w wr ∧ wr.heap[gd]? = some (.cells csd 3 frd)) (fun i _ => 35 - (intOf i).toNat)
  case atStart => exact ⟨0, by omega, rfl, hbu0.out, hb0.out, HTd.out⟩
  case round =>
    obtain ⟨k, hk, rfl, hbu, hbel, hTr⟩ := hrel
    have hz := hbel.size
    by_cases hlt : k < 35
    · have n1 : (k : Int) < 35 := by omega
      have n0 : 0 ≤ (k : Int) := by omega
      have hc := (cell_block (j := k) (hTr.trans HTd.out.symm)).trans (HId.out.2 k (by rw [HDl.out]; exact hlt))
      have HTr := Lib.hid hTr
      clear hTr
      have hDk := HDe.out k
      have hps := part_size sig h k hlt
      have HS := fun w : World => Lib.hid (step_any (sig.extract (16 * k) (16 * (k + 1))) (by omega) (15 - ((D.getD k 0 : Nat) : Int)) (15 - D.getD k 0) (by omega) w)
      have HK := Lib.hid (recB_succ D sig k)
      have hxs := step_size _ hps (15 - D.getD k 0)
      have hLk := HL.out k (by omega)
      generalize stepN (sig.extract (16 * k) (16 * (k + 1))) (15 - D.getD k 0) = x at HS HK hxs
      generalize D.getD k 0 = d at HS hc hDk
      rw [show sig.extract (16 * k) (16 * (k + 1)) = sig.extract (k * 16) ((k + 1) * 16) by congr 1 <;> omega] at HS
      go_wp2_with fail
      refine (HS wr).out.mono ?_
      rintro e w2 ⟨rfl, hb2⟩
      have hbu2 := builder_keep hbu hb2
      have HT2 : Hid (w2.heap[gd]? = some (.cells csd 3 frd)) := Lib.hid ((hb2.block gd (Array.getElem?_eq_some_iff.1 HTr.out).1).trans HTr.out)
      have hbel2 := hbel.trans (hb2.mono hz)
      have hz2 := hbel2.size
      have HW := Lib.hid (write_far w.heap.size w.heap.size (recB D sig k) x w2 hbu2 (by omega) hz2)
      clear hb2 hbu2 hbu hc HS hps hDk
      go_wp2_with fail
      refine HW.out.mono ?_
      rintro e w3 ⟨rfl, hbu3, hb3, hf3⟩
      rw [← HK.out] at hbu3
      have hT3 := hf3 gd _ _ _ hgb (by decide) HT2.out
      clear HW hf3
      go_wp2_with fail
      exact ⟨⟨k + 1, by omega, by go_num, hbu3, hbel2.trans hb3, hT3⟩, by simp [intOf]; omega⟩
    · obtain rfl : k = 35 := by omega
      have HB := Lib.hid (Try.Builder_String_any w.heap.size w.heap.size _ wr hbu hz)
      have hLk := HL.out 35 (by omega)
      change Hid (Calls Try.prog 86 #[.pointer (some ⟨w.heap.size, 0, none⟩)] wr fun e w' => e = .returned (.string (bs (recB D sig 35))) ∧ Below w.heap.size wr w') at HB
      have hys : (bs (recB D sig 35)).size ≤ 4096 := by rw [bs_size, hLk]; omega
      generalize bs (recB D sig 35) = y at HB HE hys
      clear hbu
      go_wp2_with fail
      refine HB.out.mono ?_
      rintro e w2 ⟨rfl, hb2⟩
      go_wp2_with fail
      refine (sum_one y w2 hys).mono ?_
      rw [← HE.out]
      rintro e w3 ⟨rfl, hb3⟩
      go_wp2_with fail
      go_ret2
      exact ⟨rfl, (hbel.trans hb2).trans (hb3.mono (by have := hb2.size; omega))⟩
end Go.Proofs.Ytljnadbfadgglaa
