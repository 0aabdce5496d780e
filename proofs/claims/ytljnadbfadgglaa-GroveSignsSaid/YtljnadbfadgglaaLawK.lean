/- What the laws share: a call of sha.Sum at one text, the slices that come in, closed facts. No condition. -/
import Derived.Test.YtljnadbfadgglaaPart
import Derived.Test.YtljnadbfadgglaaRows
import Derived.ProofKit
import Derived.OpenShut
import Derived.ShutString
import Derived.ChangeOld
import Derived.SliceStrings
import Derived.Deep.RegionHeld3
namespace Go.Proofs.Ytljnadbfadgglaa
open Go.ChangeShapes Go.WideShapes Go.ChangeAt Go.RowKit
set_option maxRecDepth 100000
open Go.ChangeMaps (open_string shut_string)

theorem own : ownKnob Try.prog.godebug = none := by kernel_rfl
theorem laidOut : laidOutB Try.prog = true := by kernel_rfl
theorem mod_nat (a : Int) (n : Nat) : ∃ i : Nat, i ≤ n ∧ (IntKind.u64.wrap a).tmod ((n : Int) + 1) = (i : Int) := by
  have h0 : 0 ≤ IntKind.u64.wrap a := by rw [IntKind.wrap_u64]; omega
  have h1 := Int.emod_nonneg (IntKind.u64.wrap a) (show ((n : Int) + 1) ≠ 0 by omega)
  have h2 := Int.emod_lt_of_pos (IntKind.u64.wrap a) (show (0 : Int) < (n : Int) + 1 by omega)
  refine ⟨(IntKind.u64.wrap a % ((n : Int) + 1)).toNat, by omega, ?_⟩
  rw [Int.tmod_eq_emod_of_nonneg h0]
  omega
theorem cat_one (s : ByteArray) : cat [s] = s := by unfold cat; simp [bs_of]
theorem sum_blk (cs : List ByteArray) (B n : Nat) (hn : n = cs.length) (W : World) (T : TypeId) (hB : W.heap[B]? = some (.cells (cs.map Value.string).toArray T (0, 0))) (hN : n ≤ 1000000) (hlen : (cat cs).size ≤ 4294967296) :
    Calls Try.prog 52 #[.slice (some ⟨B, 0, none⟩) n n] W fun e w' => e = .returned (.string (dig (cat cs))) ∧ Below W.heap.size W w' :=
  sum_any B 0 n n cs hn W (fun j x hj => by
    rw [Nat.zero_add, cell_of_row _ _ _ _ _ _ hB]
    simp [hj]) (Array.getElem?_eq_some_iff.1 hB).1 (Nat.le_refl _) hN hlen
theorem sum_one (s : ByteArray) (w : World) (h : s.size ≤ 4096) :
    Calls Try.prog 52 #[.slice (some ⟨w.heap.size, 0, none⟩) 1 1] (w.alloc (.cells #[.string s] 9)) fun e w' => e = .returned (.string (dig s)) ∧ Below w.heap.size w w' := by
  have := sum_any w.heap.size 0 1 1 [s] rfl (w.alloc (.cells #[.string s] 9)) (fun j x hj => by
    rw [Nat.zero_add, cell_of_row _ _ _ _ _ _ (heap_alloc_new w _)]
    have : j = 0 := by have := (List.getElem?_eq_some_iff.1 hj).1; simp at this; omega
    subst this
    simp at hj; subst hj; rfl) (by simp) (by omega) (by omega) (by rw [cat_one]; omega)
  rw [cat_one] at this
  exact this.mono fun e w' ⟨he, hb⟩ => ⟨he, ((Below.refl _ _).alloc (Nat.le_refl _) _).trans (hb.mono (by simp))⟩


/-- A slice of texts that came in. -/
def IsTexts (w : World) (a : Option Addr) (len cap : Nat) (ss : List ByteArray) : Prop :=
  (a = none ∧ len = 0 ∧ cap = 0 ∧ ss = []) ∨
  ∃ x, a = some x ∧ len ≤ cap ∧ cap ≤ maxLen ∧ ss.length = cap ∧ (∀ i, i < ss.length → w.cell? (x.add i) = some (.string (ss.getD i ByteArray.empty))) ∧ ∀ s ∈ ss, s.size ≤ maxLen
/-- A slice of ints that came in. -/
def IsInts (w : World) (a : Option Addr) (len cap : Nat) (zs : List Int) : Prop :=
  (a = none ∧ len = 0 ∧ cap = 0 ∧ zs = []) ∨
  ∃ x, a = some x ∧ len ≤ cap ∧ cap ≤ maxLen ∧ zs.length = cap ∧ (∀ i, i < zs.length → w.cell? (x.add i) = some (.int .i64 (zs.getD i 0))) ∧ ∀ n ∈ zs, (Lit.int .i64 n).wf = true
end Go.Proofs.Ytljnadbfadgglaa
