/- A region that draws its order, whose operations read what is kept and whose callees only lay new memory: one walk of the text's order serves every order (the class of worlds: all that is below B as it was in W). No condition. -/
import Derived.Test.YtljnadbfadgglaaKit
import Derived.BigQuiet
import Derived.Deep.Quiet
import Derived.Deep.RegionWith
namespace Go.Proofs.Ytljnadbfadgglaa
open Go.RowKit
set_option maxRecDepth 100000
set_option linter.unusedVariables false

/-- A world that is as W below B. -/
structure Bel (B : Nat) (W : World) where
  w : World
  h : Below B W w

instance bel_nonempty (B : Nat) (W : World) : Nonempty (Bel B W) := ⟨⟨W, Below.refl _ _⟩⟩

theorem wp_region_bel {P : Program} {id : Nat} {Q : Exit → Act → World → Prop} {a : Act} {w : World} {l : List Oper} (B : Nat) (W : World) (hm : P.follows .mixedOrders = true) (hB : Region.lexB .any l.toArray = true) (hw : Below B W w)
    (h : wpQuiet P l.toArray (fun w' => ∃ x : Bel B W, w' = x.w) (fun a' => ∀ w', (∃ x : Bel B W, w' = x.w) → Q .normal a' w') l a) : (Code.region id l.toArray true).wp P Q a w :=
  wp_region_quiet (C := fun w' => ∃ x : Bel B W, w' = x.w) hm hB ⟨⟨{ w with drawn := w.drawn + 1 }, ⟨hw.os, hw.tape, hw.output, hw.size, hw.block⟩⟩, rfl⟩ (by simpa using h)

theorem calls_bel {P : Program} {f : FuncId} {args : Array Value} {B : Nat} {W : World} {x : Bel B W} {v : Value} (hB : B ≤ W.heap.size)
    (h : Calls P f args x.w fun e w' => e = .returned v ∧ Below x.w.heap.size x.w w') : Calls P f args x.w fun e w'' => e = .returned v ∧ ∃ y : Bel B W, w'' = y.w :=
  h.mono fun _ w' ⟨he, hb⟩ => ⟨he, ⟨w', x.h.trans (hb.mono (Nat.le_trans hB x.h.size))⟩, rfl⟩
theorem calls_bel_same {P : Program} {f : FuncId} {args : Array Value} {B : Nat} {W : World} {x : Bel B W} {v : Value}
    (h : Calls P f args x.w fun e w' => e = .returned v ∧ x.w = w') : Calls P f args x.w fun e w'' => e = .returned v ∧ ∃ y : Bel B W, w'' = y.w :=
  h.mono fun _ w' ⟨he, hb⟩ => ⟨he, x, hb.symm⟩
theorem Bel.cell {B : Nat} {W : World} (x : Bel B W) {b o : Nat} {v : Value} (hb : b < B) (h : W.cell? ⟨b, o, none⟩ = some v) : x.w.cell? ⟨b, o, none⟩ = some v :=
  (x.h.cell (p := ⟨b, o, none⟩) hb).trans h
end Go.Proofs.Ytljnadbfadgglaa
