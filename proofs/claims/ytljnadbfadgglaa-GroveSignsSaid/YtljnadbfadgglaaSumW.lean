/- Plain lemmas for the digest: joined texts, blocks cut off a text, the bytes of the words. No condition. -/
import Derived.Test.YtljnadbfadgglaaBlk3
import Derived.Test.YtljnadbfadgglaaPad
import Derived.Lib.Join
namespace Go.Proofs.Ytljnadbfadgglaa
open Go.RowKit
set_option maxRecDepth 100000

/-- Texts one behind the other. -/
def cat (xs : List ByteArray) : ByteArray := bs (xs.map (·.data.toList)).flatten
/-- The digest of a text. -/
def dig (s : ByteArray) : ByteArray := bs (Sha.sum s.data.toList)
theorem dig_size (s : ByteArray) : (dig s).size = 32 := by
  unfold dig; rw [bs_size]; rfl
theorem join_cat (xs : List ByteArray) : (⟨(Lib.join (xs.map (·.data.toList)) (⟨#[]⟩ : ByteArray).data.toList).toArray⟩ : ByteArray) = cat xs := by
  unfold cat bs
  congr 2
  cases xs with
  | nil => rfl
  | cons x r =>
    rw [List.map_cons, Lib.join_cons]
    simp [Lib.joinTail, Function.comp_def]
theorem cat_data (xs : List ByteArray) : (cat xs).data.toList = (xs.map (·.data.toList)).flatten := bs_data _
theorem cat_size (xs : List ByteArray) : (cat xs).size = (Lib.join (xs.map (·.data.toList)) (⟨#[]⟩ : ByteArray).data.toList).length := by
  rw [← join_cat]; simp [ByteArray.size]
theorem bs_append (a b : List UInt8) : bs a ++ bs b = bs (a ++ b) := by
  apply ByteArray.ext
  simp [bs, ByteArray.data_append]
theorem str_append (s : ByteArray) (b : List UInt8) : s ++ bs b = bs (s.data.toList ++ b) := by
  rw [← bs_append, bs_of]
theorem bs_extract (l : List UInt8) (a b : Nat) : (bs l).extract a b = bs ((l.drop a).take (b - a)) := by
  rw [Lib.extract_eq, bs_data]; rfl
theorem bs_rest (l : List UInt8) (a n : Nat) (h : n = l.length) : (bs l).extract a n = bs (l.drop a) := by
  rw [bs_extract, List.take_of_length_le]
  simp [h]

/-- The padded text. -/
def padded (s : ByteArray) : List UInt8 := s.data.toList ++ Sha.pad s.data.toList.length
theorem padded_length (s : ByteArray) : (padded s).length % 64 = 0 := by
  unfold padded
  rw [List.length_append]
  simp [Sha.pad, Sha.lenBytes]
  omega
theorem dig_hash (s : ByteArray) : dig s = bs (Sha.hash (padded s) ((padded s).length / 64)).out := rfl
theorem hash_succ (l : List UInt8) (k : Nat) : Sha.hash l (k + 1) = Sha.blk (Sha.hash l k) ((l.drop (64 * k)).take 64) := rfl

/-- The bytes of the first n words. -/
def outTo (s : Sha.St) (n : Nat) : List UInt8 := s.out.take (4 * n)
theorem outTo_all (s : Sha.St) : outTo s 8 = s.out := rfl
theorem out_succ (s : Sha.St) (n : Nat) (h : n < 8) : outTo s (n + 1) = outTo s n ++ Sha.by4 (at_ s n) := by
  have : n = 0 ∨ n = 1 ∨ n = 2 ∨ n = 3 ∨ n = 4 ∨ n = 5 ∨ n = 6 ∨ n = 7 := by omega
  rcases this with rfl | rfl | rfl | rfl | rfl | rfl | rfl | rfl <;> rfl
theorem low8 (x : BitVec 32) : ((⟨x.setWidth 8⟩ : UInt8).toNat : Int) = u x % 256 := by
  unfold u
  show ((x.setWidth 8).toNat : Int) = _
  rw [BitVec.toNat_setWidth]
  omega
theorem by4_cells (x : BitVec 32) : Lib.byteCells (Sha.by4 x) = [Value.int .u8 (u (x >>> 24) % 256), Value.int .u8 (u (x >>> 16) % 256), Value.int .u8 (u (x >>> 8) % 256), Value.int .u8 (u x % 256)] := by
  simp only [Lib.byteCells, Sha.by4, List.map_cons, List.map_nil, low8]
theorem out_cells (s : Sha.St) (n : Nat) (h : n < 8) : Lib.byteCells (outTo s (n + 1)) = Lib.byteCells (outTo s n) ++ [Value.int .u8 (u (at_ s n >>> 24) % 256), Value.int .u8 (u (at_ s n >>> 16) % 256), Value.int .u8 (u (at_ s n >>> 8) % 256), Value.int .u8 (u (at_ s n) % 256)] := by
  rw [out_succ s n h, Lib.byteCells_append, by4_cells]
theorem row_cells {wr : World} {g : Nat} {T : TypeId} {st : Sha.St} (h : wr.heap[g]? = some (.cells (stK st) T (0, 0))) :
    wr.cell? ⟨g, 0, none⟩ = some (.int .u32 (u st.a)) ∧ wr.cell? ⟨g, 1, none⟩ = some (.int .u32 (u st.b)) ∧ wr.cell? ⟨g, 2, none⟩ = some (.int .u32 (u st.c)) ∧ wr.cell? ⟨g, 3, none⟩ = some (.int .u32 (u st.d)) ∧
    wr.cell? ⟨g, 4, none⟩ = some (.int .u32 (u st.e)) ∧ wr.cell? ⟨g, 5, none⟩ = some (.int .u32 (u st.f)) ∧ wr.cell? ⟨g, 6, none⟩ = some (.int .u32 (u st.g)) ∧ wr.cell? ⟨g, 7, none⟩ = some (.int .u32 (u st.h)) := by
  have e := fun j => cell_of_row wr g j (stK st) T (0, 0) h
  exact ⟨(e 0).trans (stK_low st 0 (by decide)), (e 1).trans (stK_low st 1 (by decide)), (e 2).trans (stK_low st 2 (by decide)), (e 3).trans (stK_low st 3 (by decide)), (e 4).trans (stK_low st 4 (by decide)), (e 5).trans (stK_low st 5 (by decide)), (e 6).trans (stK_low st 6 (by decide)), (e 7).trans (stK_low st 7 (by decide))⟩
end Go.Proofs.Ytljnadbfadgglaa
