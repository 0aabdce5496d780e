/- sha.Part, and the digest of abc: the first look of the statements of layer 3. -/
import Derived.Test.YtljnadbfadgglaaSum
import Derived.Test.YtljnadbfadgglaaSumW
namespace Go.Proofs.Ytljnadbfadgglaa
open Go.RowKit
set_option maxRecDepth 100000

set_option maxRecDepth 100000 in
theorem dig_abc : (dig (cat [⟨#[97]⟩, ⟨#[98, 99]⟩])).extract 0 4 = ⟨#[186, 120, 22, 191]⟩ := by
  have h : (Sha.sum [97, 98, 99]).take 4 = [186, 120, 22, 191] := by decide +kernel
  have e : (cat [⟨#[97]⟩, ⟨#[98, 99]⟩]).data.toList = [97, 98, 99] := by rw [cat_data]; rfl
  unfold dig
  rw [e, bs_extract, List.drop_zero, show (4 : Nat) - 0 = 4 from rfl, h]
  rfl

end Go.Proofs.Ytljnadbfadgglaa
