/- A signer stays while another one signs; short seeds. No condition. -/
import Derived.Test.YtljnadbfadgglaaGTrue
namespace Go.Proofs.Ytljnadbfadgglaa
open Go.RowKit
set_option maxRecDepth 100000
set_option linter.unusedVariables false

theorem SignerAt.far {w w' : World} {B b x : Nat} {seed : ByteArray} {h used : Nat} (hs : SignerAt w B b seed h used) (hg : w.grownBy w' (some x)) (hx : x < B ∨ b < x) : SignerAt w' B b seed h used := by
  have hlt := hs.lt
  obtain ⟨v, hb, g, c, bl, rfl, hc, hg1, hgD, hD, h1, h2⟩ := hs
  refine ⟨_, (hg.block b hlt (fun e => by have := Option.some.inj e; omega)).trans hb, g, c, bl, rfl, hc, hg1, hgD, Nat.le_trans hD hg.size, fun i hi => ?_, fun i hi => ⟨(h2 i hi).1, (h2 i hi).2.1, fun j hj => ?_⟩⟩
  · exact (hg.cell_far ⟨g, i, none⟩ (by show g < _; omega) (fun e => by have : g = x := Option.some.inj e; omega)).trans (h1 i hi)
  · exact (hg.cell_far ⟨bl i, j, none⟩ (by have := (h2 i hi).2.1; show bl i < _; omega) (fun e => by have : bl i = x := Option.some.inj e; have := h2 i hi; omega)).trans ((h2 i hi).2.2 j hj)
theorem below_of_grown {B x : Nat} {w w1 w2 : World} (h : Below B w w1) (hg : w1.grownBy w2 (some x)) (hx : B ≤ x) (hB : B ≤ w1.heap.size) : Below B w w2 :=
  h.grown hg hB (fun j hj => by have := Option.some.inj hj; omega)
theorem SignerAt.base {w : World} {B b : Nat} {seed : ByteArray} {h used : Nat} (hs : SignerAt w B b seed h used) : B < b := by
  obtain ⟨v, hb, g, c, bl, rfl, hc, hg1, hgD, hD, h1, h2⟩ := hs
  omega
theorem short_yes6 (a : ByteArray) (h : a.size ≤ 4096) (w : World) : Calls Try.prog 16 #[.string a] w fun e w' => e = .returned (.bool true) ∧ w = w' :=
  (short6 a w).mono fun e w' ⟨he, hw⟩ => ⟨by rw [he, decide_eq_true h], hw⟩
theorem short_no6 (a : ByteArray) (h : 4096 < a.size) (w : World) : Calls Try.prog 16 #[.string a] w fun e w' => e = .returned (.bool false) ∧ w = w' :=
  (short6 a w).mono fun e w' ⟨he, hw⟩ => ⟨by rw [he, decide_eq_false (by omega)], hw⟩
end Go.Proofs.Ytljnadbfadgglaa
