/- Contracts of slices.Sorted over maps.Keys at this dump, laid by the kit's tools. No condition. -/
import Derived.Shelf.SlIter.Nil
import Derived.Shelf.SlIterI.Nil
import Derived.Shelf.SortM.Plain
import Derived.Shelf.SortM.SortNone
import Derived.Ground.GgzProg
import Derived.Ground.SlgmProg
import Derived.Test.YtlibpcllceepkaaGreatProg
namespace Go.Proofs
open Go.Shelf
def Tryz.keys303_ren : Go.Shelf.Ren := ⟨fun | 7 => 303 | 10 => 320 | n => n, fun | 23 => 163 | 26 => 9 | 3 => 32 | 28 => 396 | 0 => 0 | 27 => 395 | 33 => 408 | 4 => 4 | n => n, fun | n => n⟩
theorem Tryz.keys303 : Go.Proofs.SlLaysZ.n7 Tryz.prog Tryz.keys303_ren := {
  mixed := by kernel_rfl
  f7 := ⟨Tryz.f303.name, by decide, Tryz.func303.trans (congrArg some (by kernel_rfl))⟩
  f10 := ⟨Tryz.f320.name, by decide, Tryz.func320.trans (congrArg some (by kernel_rfl))⟩
  t0 := Tryz.underlying0
  a0 := Tryz.isAgg0
  z0 := Tryz.sizeOf0
  v0 := Tryz.zeroValue0
  t4 := Tryz.underlying4
  a4 := Tryz.isAgg4
  z4 := Tryz.sizeOf4
  v4 := Tryz.zeroValue4
  t23 := Tryz.underlying163
  a23 := Tryz.isAgg163
  z23 := Tryz.sizeOf163
  v23 := Tryz.zeroValue163
  t26 := Tryz.underlying9
  a26 := Tryz.isAgg9
  z26 := Tryz.sizeOf9
  v26 := Tryz.zeroValue9
  t27 := Tryz.underlying395
  a27 := Tryz.isAgg395
  z27 := Tryz.sizeOf395
  v27 := Tryz.zeroValue395
  t28 := Tryz.underlying396
  a28 := Tryz.isAgg396
  z28 := Tryz.sizeOf396
  v28 := Tryz.zeroValue396
  t33 := Tryz.underlying408
  a33 := Tryz.isAgg408
  z33 := Tryz.sizeOf408
  v33 := Tryz.zeroValue408 }
def Tryz.sorted302_ren : Go.Shelf.Ren := ⟨fun | 6 => 302 | 8 => 318 | 9 => 319 | 11 => 328 | 13 => 106 | 12 => 329 | 23 => 138 | 24 => 139 | 14 => 333 | 15 => 334 | 16 => 335 | 17 => 336 | 18 => 337 | 19 => 338 | 20 => 339 | 21 => 340 | 22 => 341 | 25 => 345 | 26 => 159 | 27 => 160 | 28 => 346 | 29 => 347 | 30 => 348 | 31 => 349 | n => n, fun | 26 => 9 | 28 => 396 | 24 => 393 | 0 => 0 | 3 => 3 | 37 => 24 | 48 => 265 | 50 => 37 | 4 => 4 | 40 => 258 | 39 => 257 | 45 => 189 | 5 => 5 | 9 => 9 | 51 => 277 | 55 => 281 | 57 => 295 | 58 => 296 | 33 => 408 | n => n, fun | n => n⟩
theorem Tryz.sorted302 : Go.Proofs.SlLaysZ.n6 Tryz.prog Tryz.sorted302_ren := {
  mixed := by kernel_rfl
  f6 := ⟨Tryz.f302.name, by decide, Tryz.func302.trans (congrArg some (by kernel_rfl))⟩
  f8 := ⟨Tryz.f318.name, by decide, Tryz.func318.trans (congrArg some (by kernel_rfl))⟩
  f11 := ⟨Tryz.f328.name, by decide, Tryz.func328.trans (congrArg some (by kernel_rfl))⟩
  t0 := Tryz.underlying0
  a0 := Tryz.isAgg0
  z0 := Tryz.sizeOf0
  v0 := Tryz.zeroValue0
  t24 := Tryz.underlying393
  a24 := Tryz.isAgg393
  z24 := Tryz.sizeOf393
  v24 := Tryz.zeroValue393
  t26 := Tryz.underlying9
  a26 := Tryz.isAgg9
  z26 := Tryz.sizeOf9
  v26 := Tryz.zeroValue9
  t28 := Tryz.underlying396
  a28 := Tryz.isAgg396
  z28 := Tryz.sizeOf396
  v28 := Tryz.zeroValue396
  i26 := by kernel_rfl }
def Tryz.sort319_ren : Go.Shelf.Ren := ⟨fun | 6 => 319 | 8 => 106 | 9 => 329 | 19 => 138 | 20 => 139 | 21 => 333 | 22 => 334 | 23 => 335 | 24 => 336 | 25 => 337 | 26 => 338 | 27 => 339 | 28 => 340 | 29 => 341 | 36 => 345 | 31 => 159 | 32 => 160 | 37 => 346 | 38 => 347 | 39 => 348 | 41 => 349 | n => n, fun | 27 => 393 | 29 => 9 | 3 => 3 | 32 => 24 | 26 => 393 | 0 => 0 | 44 => 265 | 46 => 37 | 4 => 4 | 36 => 258 | 35 => 257 | 41 => 189 | 5 => 5 | 9 => 9 | 53 => 277 | 57 => 281 | 63 => 295 | 64 => 296 | n => n, fun | n => n⟩
theorem Tryz.sort319 : Go.Proofs.SlLaysM.n6 Tryz.prog Tryz.sort319_ren := {
  mixed := by kernel_rfl
  f6 := ⟨Tryz.f319.name, by decide, Tryz.func319.trans (congrArg some (by kernel_rfl))⟩
  f8 := Tryz.func106.trans (congrArg some (by kernel_rfl))
  f9 := ⟨Tryz.f329.name, by decide, Tryz.func329.trans (congrArg some (by kernel_rfl))⟩
  f19 := Tryz.func138.trans (congrArg some (by kernel_rfl))
  f20 := Tryz.func139.trans (congrArg some (by kernel_rfl))
  f21 := ⟨Tryz.f333.name, by decide, Tryz.func333.trans (congrArg some (by kernel_rfl))⟩
  f22 := ⟨Tryz.f334.name, by decide, Tryz.func334.trans (congrArg some (by kernel_rfl))⟩
  f23 := ⟨Tryz.f335.name, by decide, Tryz.func335.trans (congrArg some (by kernel_rfl))⟩
  f24 := ⟨Tryz.f336.name, by decide, Tryz.func336.trans (congrArg some (by kernel_rfl))⟩
  f25 := ⟨Tryz.f337.name, by decide, Tryz.func337.trans (congrArg some (by kernel_rfl))⟩
  f26 := ⟨Tryz.f338.name, by decide, Tryz.func338.trans (congrArg some (by kernel_rfl))⟩
  f27 := ⟨Tryz.f339.name, by decide, Tryz.func339.trans (congrArg some (by kernel_rfl))⟩
  f28 := ⟨Tryz.f340.name, by decide, Tryz.func340.trans (congrArg some (by kernel_rfl))⟩
  f29 := ⟨Tryz.f341.name, by decide, Tryz.func341.trans (congrArg some (by kernel_rfl))⟩
  f31 := Tryz.func159.trans (congrArg some (by kernel_rfl))
  f32 := Tryz.func160.trans (congrArg some (by kernel_rfl))
  f36 := ⟨Tryz.f345.name, by decide, Tryz.func345.trans (congrArg some (by kernel_rfl))⟩
  f37 := ⟨Tryz.f346.name, by decide, Tryz.func346.trans (congrArg some (by kernel_rfl))⟩
  f38 := ⟨Tryz.f347.name, by decide, Tryz.func347.trans (congrArg some (by kernel_rfl))⟩
  f39 := ⟨Tryz.f348.name, by decide, Tryz.func348.trans (congrArg some (by kernel_rfl))⟩
  f41 := ⟨Tryz.f349.name, by decide, Tryz.func349.trans (congrArg some (by kernel_rfl))⟩
  t0 := Tryz.underlying0
  a0 := Tryz.isAgg0
  z0 := Tryz.sizeOf0
  v0 := Tryz.zeroValue0
  t3 := Tryz.underlying3
  a3 := Tryz.isAgg3
  z3 := Tryz.sizeOf3
  v3 := Tryz.zeroValue3
  t4 := Tryz.underlying4
  a4 := Tryz.isAgg4
  z4 := Tryz.sizeOf4
  v4 := Tryz.zeroValue4
  t5 := Tryz.underlying5
  a5 := Tryz.isAgg5
  z5 := Tryz.sizeOf5
  v5 := Tryz.zeroValue5
  t9 := Tryz.underlying9
  a9 := Tryz.isAgg9
  z9 := Tryz.sizeOf9
  v9 := Tryz.zeroValue9
  t26 := Tryz.underlying393
  a26 := Tryz.isAgg393
  z26 := Tryz.sizeOf393
  v26 := Tryz.zeroValue393
  t27 := Tryz.underlying393
  a27 := Tryz.isAgg393
  z27 := Tryz.sizeOf393
  v27 := Tryz.zeroValue393
  t29 := Tryz.underlying9
  a29 := Tryz.isAgg9
  z29 := Tryz.sizeOf9
  v29 := Tryz.zeroValue9
  t32 := Tryz.underlying24
  a32 := Tryz.isAgg24
  z32 := Tryz.sizeOf24
  v32 := Tryz.zeroValue24
  t35 := Tryz.underlying257
  a35 := Tryz.isAgg257
  z35 := Tryz.sizeOf257
  v35 := Tryz.zeroValue257
  t36 := Tryz.underlying258
  a36 := Tryz.isAgg258
  z36 := Tryz.sizeOf258
  v36 := Tryz.zeroValue258
  t41 := Tryz.underlying189
  a41 := Tryz.isAgg189
  z41 := Tryz.sizeOf189
  v41 := Tryz.zeroValue189
  t44 := Tryz.underlying265
  a44 := Tryz.isAgg265
  z44 := Tryz.sizeOf265
  v44 := Tryz.zeroValue265
  t46 := Tryz.underlying37
  a46 := Tryz.isAgg37
  z46 := Tryz.sizeOf37
  v46 := Tryz.zeroValue37
  t53 := Tryz.underlying277
  a53 := Tryz.isAgg277
  z53 := Tryz.sizeOf277
  v53 := Tryz.zeroValue277
  t57 := Tryz.underlying281
  a57 := Tryz.isAgg281
  z57 := Tryz.sizeOf281
  v57 := Tryz.zeroValue281
  t63 := Tryz.underlying295
  a63 := Tryz.isAgg295
  z63 := Tryz.sizeOf295
  v63 := Tryz.zeroValue295
  t64 := Tryz.underlying296
  a64 := Tryz.isAgg296
  z64 := Tryz.sizeOf296
  v64 := Tryz.zeroValue296 }
open Go.RowKit Go.Maps Go.Sort in
theorem Tryz.sorts302 (m : Nat) : AnyZ.SortsIn Tryz.prog Tryz.sorted302_ren Fence.wide m :=
  ⟨fun blk off cap ss W hH hblk hsz => callsIn_wide.2 (AnyM.slices_Sort_string Tryz.sort319 blk off cap ss W hH hblk hsz),
   fun p cap W => callsIn_wide.2 (AnyM.slices_Sort_string_none Tryz.sort319 p cap W)⟩
open Go.RowKit Go.Maps Go.Sort in
theorem Tryz.maps_Keys_303 (mb : Option Nat) (W : World) : Calls Tryz.prog 303 #[.map mb] W fun e w' => e = .returned (.func (.func 320) #[] #[.pointer (some ⟨W.heap.size, 0, none⟩)]) ∧ w' = W.alloc (.cells #[.map mb] 163) :=
  (callsIn_wide (n := 5)).1 (AnyZ.keys_in Tryz.keys303 Fence.wide 5 trivial rfl mb W)
open Go.RowKit Go.Maps Go.Sort in
theorem Tryz.slices_Sorted_302_303 {H : Type} (b nn : Nat) (D0 : DataW H) (R : Value → Option (DataW H × List MemPlace)) (w : World) (hown : w.ownsMap Tryz.prog 9 R b nn D0) (hmax : Maps.size D0 ≤ maxLen) (hbytes : Maps.size D0 * 16 ≤ 140737488355328) :
    Calls Tryz.prog 302 #[.func (.func 320) #[] #[.pointer (some ⟨w.heap.size, 0, none⟩)]] (w.alloc (.cells #[.map (some b)] 163)) fun e w' => ∃ (v : Value) (ss : List (List UInt8)), e = .returned v ∧ ss.Perm (strKeys D0) ∧
      w'.ownsRow (w.alloc (.cells #[.map (some b)] 163)).heap.size 9 1 v ss.length ((ss.mergeSort (fun x y => decide (x ≤ y))).map encStr) ∧ (v = .slice none 0 0 ↔ ss = []) ∧ Below (w.alloc (.cells #[.map (some b)] 163)).heap.size (w.alloc (.cells #[.map (some b)] 163)) w' := by
  have hbl := hown.lt
  have hseq : SeqGives Fence.wide 2 Tryz.prog 320 #[.pointer (some ⟨w.heap.size, 0, none⟩)] encStr (fun ss => ss.Perm (strKeys D0)) (Maps.size D0) (w.alloc (.cells #[.map (some b)] 163)) :=
    AnyZ.keys_gives (ρ := Tryz.keys303_ren) { Tryz.keys303 with } Fence.wide _ trivial rfl (by omega) w.heap.size b nn D0 _ (by simp) (by simp) (by
      obtain ⟨es, clock, hb, Ft, hs, hD⟩ := hown
      exact ⟨es, clock, (Below.heap_alloc _ _ b hbl).trans hb, Ft, hs, hD⟩)
  exact (callsIn_wide (n := 5)).1 (AnyZ.sorted_in Tryz.sorted302 Fence.wide 5 trivial trivial trivial trivial rfl (by omega) (Tryz.sorts302 _) (enters_of Tryz.func319 (by kernel_rfl) rfl) 320 #[.pointer (some ⟨w.heap.size, 0, none⟩)] trivial (enters_of Tryz.func320 (by kernel_rfl) rfl) _ _ hmax hbytes _ hseq)
def Tryz.keys55_ren : Go.Shelf.Ren := ⟨fun | 7 => 55 | 10 => 79 | n => n, fun | 23 => 75 | 26 => 3 | 3 => 71 | 28 => 143 | 0 => 0 | 27 => 142 | 33 => 88 | 4 => 4 | n => n, fun | n => n⟩
theorem Tryz.keys55 : Go.Proofs.SlLaysZI.n7 Tryz.prog Tryz.keys55_ren := {
  mixed := by kernel_rfl
  f7 := ⟨Tryz.f55.name, by decide, Tryz.func55.trans (congrArg some (by kernel_rfl))⟩
  f10 := ⟨Tryz.f79.name, by decide, Tryz.func79.trans (congrArg some (by kernel_rfl))⟩
  t0 := Tryz.underlying0
  a0 := Tryz.isAgg0
  z0 := Tryz.sizeOf0
  v0 := Tryz.zeroValue0
  t4 := Tryz.underlying4
  a4 := Tryz.isAgg4
  z4 := Tryz.sizeOf4
  v4 := Tryz.zeroValue4
  t23 := Tryz.underlying75
  a23 := Tryz.isAgg75
  z23 := Tryz.sizeOf75
  v23 := Tryz.zeroValue75
  t26 := Tryz.underlying3
  a26 := Tryz.isAgg3
  z26 := Tryz.sizeOf3
  v26 := Tryz.zeroValue3
  t27 := Tryz.underlying142
  a27 := Tryz.isAgg142
  z27 := Tryz.sizeOf142
  v27 := Tryz.zeroValue142
  t28 := Tryz.underlying143
  a28 := Tryz.isAgg143
  z28 := Tryz.sizeOf143
  v28 := Tryz.zeroValue143
  t33 := Tryz.underlying88
  a33 := Tryz.isAgg88
  z33 := Tryz.sizeOf88
  v33 := Tryz.zeroValue88 }
def Tryz.sorted54_ren : Go.Shelf.Ren := ⟨fun | 6 => 54 | 8 => 77 | 9 => 78 | 11 => 104 | 13 => 106 | 12 => 105 | 23 => 138 | 24 => 139 | 14 => 129 | 15 => 130 | 16 => 131 | 17 => 132 | 18 => 133 | 19 => 134 | 20 => 135 | 21 => 136 | 22 => 137 | 25 => 158 | 26 => 159 | 27 => 160 | 28 => 161 | 29 => 162 | 30 => 163 | 31 => 175 | n => n, fun | 26 => 3 | 28 => 143 | 24 => 29 | 0 => 0 | 3 => 3 | 37 => 24 | 48 => 265 | 50 => 37 | 4 => 4 | 40 => 258 | 39 => 257 | 45 => 189 | 5 => 5 | 9 => 9 | 51 => 277 | 55 => 281 | 57 => 295 | 58 => 296 | 33 => 88 | n => n, fun | n => n⟩
theorem Tryz.sorted54 : Go.Proofs.SlLaysZI.n6 Tryz.prog Tryz.sorted54_ren := {
  mixed := by kernel_rfl
  f6 := ⟨Tryz.f54.name, by decide, Tryz.func54.trans (congrArg some (by kernel_rfl))⟩
  f8 := ⟨Tryz.f77.name, by decide, Tryz.func77.trans (congrArg some (by kernel_rfl))⟩
  f11 := ⟨Tryz.f104.name, by decide, Tryz.func104.trans (congrArg some (by kernel_rfl))⟩
  t0 := Tryz.underlying0
  a0 := Tryz.isAgg0
  z0 := Tryz.sizeOf0
  v0 := Tryz.zeroValue0
  t24 := Tryz.underlying29
  a24 := Tryz.isAgg29
  z24 := Tryz.sizeOf29
  v24 := Tryz.zeroValue29
  t26 := Tryz.underlying3
  a26 := Tryz.isAgg3
  z26 := Tryz.sizeOf3
  v26 := Tryz.zeroValue3
  t28 := Tryz.underlying143
  a28 := Tryz.isAgg143
  z28 := Tryz.sizeOf143
  v28 := Tryz.zeroValue143
  i26 := by kernel_rfl }
def Tryz.sort78_ren : Go.Shelf.Ren := ⟨fun | 5 => 78 | 8 => 106 | 7 => 105 | 19 => 138 | 20 => 139 | 10 => 129 | 11 => 130 | 12 => 131 | 13 => 132 | 14 => 133 | 15 => 134 | 16 => 135 | 17 => 136 | 18 => 137 | 30 => 158 | 31 => 159 | 32 => 160 | 33 => 161 | 34 => 162 | 35 => 163 | 40 => 175 | n => n, fun | 23 => 29 | 25 => 3 | 3 => 3 | 32 => 24 | 22 => 29 | 0 => 0 | 44 => 265 | 46 => 37 | 4 => 4 | 36 => 258 | 35 => 257 | 41 => 189 | 5 => 5 | 9 => 9 | 53 => 277 | 57 => 281 | 63 => 295 | 64 => 296 | n => n, fun | n => n⟩
theorem Tryz.sort78 : Go.Proofs.SlLaysM.n5 Tryz.prog Tryz.sort78_ren := {
  mixed := by kernel_rfl
  f5 := ⟨Tryz.f78.name, by decide, Tryz.func78.trans (congrArg some (by kernel_rfl))⟩
  f7 := ⟨Tryz.f105.name, by decide, Tryz.func105.trans (congrArg some (by kernel_rfl))⟩
  f8 := Tryz.func106.trans (congrArg some (by kernel_rfl))
  f10 := ⟨Tryz.f129.name, by decide, Tryz.func129.trans (congrArg some (by kernel_rfl))⟩
  f11 := ⟨Tryz.f130.name, by decide, Tryz.func130.trans (congrArg some (by kernel_rfl))⟩
  f12 := ⟨Tryz.f131.name, by decide, Tryz.func131.trans (congrArg some (by kernel_rfl))⟩
  f13 := ⟨Tryz.f132.name, by decide, Tryz.func132.trans (congrArg some (by kernel_rfl))⟩
  f14 := ⟨Tryz.f133.name, by decide, Tryz.func133.trans (congrArg some (by kernel_rfl))⟩
  f15 := ⟨Tryz.f134.name, by decide, Tryz.func134.trans (congrArg some (by kernel_rfl))⟩
  f16 := ⟨Tryz.f135.name, by decide, Tryz.func135.trans (congrArg some (by kernel_rfl))⟩
  f17 := ⟨Tryz.f136.name, by decide, Tryz.func136.trans (congrArg some (by kernel_rfl))⟩
  f18 := ⟨Tryz.f137.name, by decide, Tryz.func137.trans (congrArg some (by kernel_rfl))⟩
  f19 := Tryz.func138.trans (congrArg some (by kernel_rfl))
  f20 := Tryz.func139.trans (congrArg some (by kernel_rfl))
  f30 := ⟨Tryz.f158.name, by decide, Tryz.func158.trans (congrArg some (by kernel_rfl))⟩
  f31 := Tryz.func159.trans (congrArg some (by kernel_rfl))
  f32 := Tryz.func160.trans (congrArg some (by kernel_rfl))
  f33 := ⟨Tryz.f161.name, by decide, Tryz.func161.trans (congrArg some (by kernel_rfl))⟩
  f34 := ⟨Tryz.f162.name, by decide, Tryz.func162.trans (congrArg some (by kernel_rfl))⟩
  f35 := ⟨Tryz.f163.name, by decide, Tryz.func163.trans (congrArg some (by kernel_rfl))⟩
  f40 := ⟨Tryz.f175.name, by decide, Tryz.func175.trans (congrArg some (by kernel_rfl))⟩
  t0 := Tryz.underlying0
  a0 := Tryz.isAgg0
  z0 := Tryz.sizeOf0
  v0 := Tryz.zeroValue0
  t3 := Tryz.underlying3
  a3 := Tryz.isAgg3
  z3 := Tryz.sizeOf3
  v3 := Tryz.zeroValue3
  t4 := Tryz.underlying4
  a4 := Tryz.isAgg4
  z4 := Tryz.sizeOf4
  v4 := Tryz.zeroValue4
  t5 := Tryz.underlying5
  a5 := Tryz.isAgg5
  z5 := Tryz.sizeOf5
  v5 := Tryz.zeroValue5
  t9 := Tryz.underlying9
  a9 := Tryz.isAgg9
  z9 := Tryz.sizeOf9
  v9 := Tryz.zeroValue9
  t22 := Tryz.underlying29
  a22 := Tryz.isAgg29
  z22 := Tryz.sizeOf29
  v22 := Tryz.zeroValue29
  t23 := Tryz.underlying29
  a23 := Tryz.isAgg29
  z23 := Tryz.sizeOf29
  v23 := Tryz.zeroValue29
  t25 := Tryz.underlying3
  a25 := Tryz.isAgg3
  z25 := Tryz.sizeOf3
  v25 := Tryz.zeroValue3
  t32 := Tryz.underlying24
  a32 := Tryz.isAgg24
  z32 := Tryz.sizeOf24
  v32 := Tryz.zeroValue24
  t35 := Tryz.underlying257
  a35 := Tryz.isAgg257
  z35 := Tryz.sizeOf257
  v35 := Tryz.zeroValue257
  t36 := Tryz.underlying258
  a36 := Tryz.isAgg258
  z36 := Tryz.sizeOf258
  v36 := Tryz.zeroValue258
  t41 := Tryz.underlying189
  a41 := Tryz.isAgg189
  z41 := Tryz.sizeOf189
  v41 := Tryz.zeroValue189
  t44 := Tryz.underlying265
  a44 := Tryz.isAgg265
  z44 := Tryz.sizeOf265
  v44 := Tryz.zeroValue265
  t46 := Tryz.underlying37
  a46 := Tryz.isAgg37
  z46 := Tryz.sizeOf37
  v46 := Tryz.zeroValue37
  t53 := Tryz.underlying277
  a53 := Tryz.isAgg277
  z53 := Tryz.sizeOf277
  v53 := Tryz.zeroValue277
  t57 := Tryz.underlying281
  a57 := Tryz.isAgg281
  z57 := Tryz.sizeOf281
  v57 := Tryz.zeroValue281
  t63 := Tryz.underlying295
  a63 := Tryz.isAgg295
  z63 := Tryz.sizeOf295
  v63 := Tryz.zeroValue295
  t64 := Tryz.underlying296
  a64 := Tryz.isAgg296
  z64 := Tryz.sizeOf296
  v64 := Tryz.zeroValue296 }
open Go.RowKit Go.Maps Go.Sort in
theorem Tryz.sorts54 (m : Nat) : AnyZI.SortsIn Tryz.prog Tryz.sorted54_ren Fence.wide m :=
  ⟨fun blk off cap ss W hH hblk hsz => callsIn_wide.2 (AnyM.slices_Sort_int Tryz.sort78 blk off cap ss W hH hblk hsz),
   fun p cap W => callsIn_wide.2 (AnyM.slices_Sort_int_none Tryz.sort78 p cap W)⟩
open Go.RowKit Go.Maps Go.Sort in
theorem Tryz.maps_Keys_55 (mb : Option Nat) (W : World) : Calls Tryz.prog 55 #[.map mb] W fun e w' => e = .returned (.func (.func 79) #[] #[.pointer (some ⟨W.heap.size, 0, none⟩)]) ∧ w' = W.alloc (.cells #[.map mb] 75) :=
  (callsIn_wide (n := 5)).1 (AnyZI.keys_in Tryz.keys55 Fence.wide 5 trivial rfl mb W)
open Go.RowKit Go.Maps Go.Sort in
theorem Tryz.slices_Sorted_54_55 {H : Type} (b nn : Nat) (D0 : DataW H) (R : Value → Option (DataW H × List MemPlace)) (w : World) (hown : w.ownsMap Tryz.prog 3 R b nn D0) (hmax : Maps.size D0 ≤ maxLen) (hbytes : Maps.size D0 * 8 ≤ 140737488355328) :
    Calls Tryz.prog 54 #[.func (.func 79) #[] #[.pointer (some ⟨w.heap.size, 0, none⟩)]] (w.alloc (.cells #[.map (some b)] 75)) fun e w' => ∃ (v : Value) (ss : List Int), e = .returned v ∧ ss.Perm (intKeys D0) ∧
      w'.ownsRow (w.alloc (.cells #[.map (some b)] 75)).heap.size 3 1 v ss.length ((ss.mergeSort (fun x y => decide (x ≤ y))).map encZ) ∧ (v = .slice none 0 0 ↔ ss = []) ∧ Below (w.alloc (.cells #[.map (some b)] 75)).heap.size (w.alloc (.cells #[.map (some b)] 75)) w' := by
  have hbl := hown.lt
  have hseq : SeqGives Fence.wide 2 Tryz.prog 79 #[.pointer (some ⟨w.heap.size, 0, none⟩)] encZ (fun ss => ss.Perm (intKeys D0)) (Maps.size D0) (w.alloc (.cells #[.map (some b)] 75)) :=
    AnyZI.keys_gives (ρ := Tryz.keys55_ren) { Tryz.keys55 with } Fence.wide _ trivial rfl (by omega) w.heap.size b nn D0 _ (by simp) (by simp) (by
      obtain ⟨es, clock, hb, Ft, hs, hD⟩ := hown
      exact ⟨es, clock, (Below.heap_alloc _ _ b hbl).trans hb, Ft, hs, hD⟩)
  exact (callsIn_wide (n := 5)).1 (AnyZI.sorted_in Tryz.sorted54 Fence.wide 5 trivial trivial trivial trivial rfl (by omega) (Tryz.sorts54 _) (enters_of Tryz.func78 (by kernel_rfl) rfl) 79 #[.pointer (some ⟨w.heap.size, 0, none⟩)] trivial (enters_of Tryz.func79 (by kernel_rfl) rfl) _ _ hmax hbytes _ hseq)
def Tryz.keys56_ren : Go.Shelf.Ren := ⟨fun | 7 => 56 | 10 => 80 | n => n, fun | 23 => 76 | 26 => 3 | 3 => 53 | 28 => 143 | 0 => 0 | 27 => 142 | 33 => 88 | 4 => 4 | n => n, fun | n => n⟩
theorem Tryz.keys56 : Go.Proofs.SlLaysZI.n7 Tryz.prog Tryz.keys56_ren := {
  mixed := by kernel_rfl
  f7 := ⟨Tryz.f56.name, by decide, Tryz.func56.trans (congrArg some (by kernel_rfl))⟩
  f10 := ⟨Tryz.f80.name, by decide, Tryz.func80.trans (congrArg some (by kernel_rfl))⟩
  t0 := Tryz.underlying0
  a0 := Tryz.isAgg0
  z0 := Tryz.sizeOf0
  v0 := Tryz.zeroValue0
  t4 := Tryz.underlying4
  a4 := Tryz.isAgg4
  z4 := Tryz.sizeOf4
  v4 := Tryz.zeroValue4
  t23 := Tryz.underlying76
  a23 := Tryz.isAgg76
  z23 := Tryz.sizeOf76
  v23 := Tryz.zeroValue76
  t26 := Tryz.underlying3
  a26 := Tryz.isAgg3
  z26 := Tryz.sizeOf3
  v26 := Tryz.zeroValue3
  t27 := Tryz.underlying142
  a27 := Tryz.isAgg142
  z27 := Tryz.sizeOf142
  v27 := Tryz.zeroValue142
  t28 := Tryz.underlying143
  a28 := Tryz.isAgg143
  z28 := Tryz.sizeOf143
  v28 := Tryz.zeroValue143
  t33 := Tryz.underlying88
  a33 := Tryz.isAgg88
  z33 := Tryz.sizeOf88
  v33 := Tryz.zeroValue88 }
open Go.RowKit Go.Maps Go.Sort in
theorem Tryz.maps_Keys_56 (mb : Option Nat) (W : World) : Calls Tryz.prog 56 #[.map mb] W fun e w' => e = .returned (.func (.func 80) #[] #[.pointer (some ⟨W.heap.size, 0, none⟩)]) ∧ w' = W.alloc (.cells #[.map mb] 76) :=
  (callsIn_wide (n := 5)).1 (AnyZI.keys_in Tryz.keys56 Fence.wide 5 trivial rfl mb W)
open Go.RowKit Go.Maps Go.Sort in
theorem Tryz.slices_Sorted_54_56 {H : Type} (b nn : Nat) (D0 : DataW H) (R : Value → Option (DataW H × List MemPlace)) (w : World) (hown : w.ownsMap Tryz.prog 3 R b nn D0) (hmax : Maps.size D0 ≤ maxLen) (hbytes : Maps.size D0 * 8 ≤ 140737488355328) :
    Calls Tryz.prog 54 #[.func (.func 80) #[] #[.pointer (some ⟨w.heap.size, 0, none⟩)]] (w.alloc (.cells #[.map (some b)] 76)) fun e w' => ∃ (v : Value) (ss : List Int), e = .returned v ∧ ss.Perm (intKeys D0) ∧
      w'.ownsRow (w.alloc (.cells #[.map (some b)] 76)).heap.size 3 1 v ss.length ((ss.mergeSort (fun x y => decide (x ≤ y))).map encZ) ∧ (v = .slice none 0 0 ↔ ss = []) ∧ Below (w.alloc (.cells #[.map (some b)] 76)).heap.size (w.alloc (.cells #[.map (some b)] 76)) w' := by
  have hbl := hown.lt
  have hseq : SeqGives Fence.wide 2 Tryz.prog 80 #[.pointer (some ⟨w.heap.size, 0, none⟩)] encZ (fun ss => ss.Perm (intKeys D0)) (Maps.size D0) (w.alloc (.cells #[.map (some b)] 76)) :=
    AnyZI.keys_gives (ρ := Tryz.keys56_ren) { Tryz.keys56 with } Fence.wide _ trivial rfl (by omega) w.heap.size b nn D0 _ (by simp) (by simp) (by
      obtain ⟨es, clock, hb, Ft, hs, hD⟩ := hown
      exact ⟨es, clock, (Below.heap_alloc _ _ b hbl).trans hb, Ft, hs, hD⟩)
  exact (callsIn_wide (n := 5)).1 (AnyZI.sorted_in Tryz.sorted54 Fence.wide 5 trivial trivial trivial trivial rfl (by omega) (Tryz.sorts54 _) (enters_of Tryz.func78 (by kernel_rfl) rfl) 80 #[.pointer (some ⟨w.heap.size, 0, none⟩)] trivial (enters_of Tryz.func80 (by kernel_rfl) rfl) _ _ hmax hbytes _ hseq)
end Go.Proofs
