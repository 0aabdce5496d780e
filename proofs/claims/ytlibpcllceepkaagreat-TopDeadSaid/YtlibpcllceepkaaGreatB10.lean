/- Joined texts of the claim. No condition. -/
import Derived.Test.YtlibpcllceepkaaGreatB00
import Derived.Laws.Bits64b
namespace Go.Proofs.YtlibpcllceepkaaGreat
open Go.RowKit
set_option maxRecDepth 100000
set_option maxRecDepth 100000
set_option linter.unusedVariables false
set_option linter.unusedSimpArgs false
set_option maxHeartbeats 16000000
def RdAt (w:World) (b:Nat) (x:ByteArray) (i:Nat) (bad:Bool):Prop:=w.heap[b]?=some (.cells #[.string x,.int .i64 i,.bool bad] 403 (0,0))
theorem RdAt.lt {w:World} {b:Nat} {x:ByteArray} {i:Nat} {bad:Bool} (h:RdAt w b x i bad):b<w.heap.size:=(zL h)
theorem RdAt.keep {w w':World} {b:Nat} {x:ByteArray} {i:Nat} {bad:Bool} (h:RdAt w b x i bad) (a:Below w.heap.size w w'):RdAt w' b x i bad:=(a.block b h.lt).trans h
theorem hM7 (x:ByteArray) (w:World):Calls Tryz.prog 299 #[.string x] w fun e w'=>e=.returned (.pointer (some ⟨w.heap.size,0,none⟩))∧RdAt w' w.heap.size x 0 false∧Below w.heap.size w w':=by
 go_enter Tryz.func299,Tryz.ntmps299;go_wp2_with fail;go_ret;exact⟨rfl,heap_alloc_new w _,(Below.refl _ _).alloc (Nat.le_refl _) _⟩
def beN (l:List UInt8):Nat:=l.foldl (fun n c=>n*256+c.toNat) 0
theorem hUy (l:List UInt8) (c:UInt8):beN (l++[c])=beN l*256+c.toNat:=by unfold beN;rw[List.foldl_append];rfl
def lim7:Nat:=72057594037927936
theorem shl8 (n:Nat) (h:n<lim7):IntKind.u64.wrap ((n:Int)*256)=(n:Int)*256:=by
 unfold lim7 at h;rw[IntKind.wrap_u64];omega
theorem or8 (n c:Nat) (d:n<lim7) (hc:c<256):bits .or .u64 ((n:Int)*256) (c:Int)=((n*256+c:Nat):Int):=by
 unfold lim7 at d;have h:=bits_or_u64_nat (n*256) c (by omega) (by omega);rw[Int.natCast_mul] at h;have a:(n*256) ||| c=n*256+c:=by
  have:=Nat.shiftLeft_add_eq_or_of_lt (i:=8) (b:=c) (by omega) n;rw[Nat.shiftLeft_eq] at this;exact this.symm
 rw[a] at h;exact h
theorem hIy (b:Nat) (x:ByteArray) (i:Nat) (m:Nat) (w:World) (h:RdAt w b x i true) :
  Calls Tryz.prog 321 #[.pointer (some ⟨b,0,none⟩),.int .i64 m] w fun e w'=>e=.returned (.int .u64 0)∧w=w':=by
 have c2:=zR w b 2 _ _ _ h;simp at c2;clear h;go_enter Tryz.func321,Tryz.ntmps321;go_wp2_with fail;go_ret;exact⟨rfl,rfl⟩
theorem hF9 (b:Nat) (x:ByteArray) (j:x.size≤maxLen) (i:Nat) (hi:i≤x.size) (m:Nat) (g:m≤8) (f:x.size<i+m) (w:World) (h:RdAt w b x i false) :
  Calls Tryz.prog 321 #[.pointer (some ⟨b,0,none⟩),.int .i64 m] w fun e w'=>e=.returned (.int .u64 0)∧RdAt w' b x i true∧w.grownBy w' (some b):=by
 have c:maxLen=9223372036854775807:=rfl;have c0:=zR w b 0 _ _ _ h;have c1:=zR w b 1 _ _ _ h;have c2:=zR w b 2 _ _ _ h;have f2:=frozen_of_row w b 2 _ _ h;simp at c0 c1 c2;have H:=zH h;have q1:IntKind.i64.wrap ((x.size:Int) - (i:Int))=(x.size:Int) - (i:Int):=by rw[IntKind.wrap_i64];omega
 have q2:(x.size:Int) - (i:Int)<(m:Int):=by omega
 clear h f;go_enter Tryz.func321,Tryz.ntmps321;go_wp2_with fail;go_quiet (fail)
 go_wp2_with fail;go_ret;have a:=hAc (Below.refl w.heap.size w) nq;have d:=(a.block b H.o.lt).trans H.o;exact⟨rfl,heap_setCell_same _ b 2 _ _ _ d,hAb (hAa a (some b)) (p:=⟨b,2,none⟩) (.inl rfl) _⟩
theorem takeU (l:List UInt8) (k:Nat) (h:k<l.length):l.take (k+1)=l.take k++[l.getD k 0]:=by
 rw[List.take_succ_eq_append_getElem h];simp[List.getD_eq_getElem?_getD,h]
theorem hLt:∀ (l:List UInt8) (a:Nat),l.foldl (fun n c=>n*256+c.toNat) a<(a+1)*256 ^ l.length
 |[],a=>by simp
 |c::r,a=>by
  have ih:=hLt r (a*256+c.toNat);have hc:=c.toNat_lt;have b:(a*256+c.toNat+1)*256 ^ r.length≤((a+1)*256)*256 ^ r.length:=Nat.mul_le_mul_right _ (by omega);rw[List.foldl_cons,List.length_cons,Nat.pow_succ,Nat.mul_comm (256 ^ r.length) 256,←Nat.mul_assoc];exact Nat.lt_of_lt_of_le ih b
theorem hPl (l:List UInt8):beN l<256 ^ l.length:=by
 have:=hLt l 0;rw[Nat.zero_add,Nat.one_mul] at this;exact this
theorem hRz (l:List UInt8) (k:Nat) (h:k≤7):beN (l.take k)<lim7:=by
 have a:=hPl (l.take k);have b:256 ^ (l.take k).length≤256 ^ 7:=Nat.pow_le_pow_right (by decide) (by rw[List.length_take];omega);have c:256 ^ 7=lim7:=by decide
 omega
theorem hZ2 (l:List UInt8) (k:Nat) (h:k≤1):beN (l.take k)<256:=by
 have:k=0∨k=1:=by omega
 rcases this with rfl | rfl
 ·rw[List.take_zero];decide
 ·cases l with
  |nil=>decide
  |cons x r=>have:=x.toNat_lt;simp[beN];omega
theorem hFi (b:Nat) (x:ByteArray) (L:x.size≤maxLen) (i:Nat) (m:Nat) (K:m≤8) (F:i+m≤x.size) (w:World) (h:RdAt w b x i false) :
  Calls Tryz.prog 321 #[.pointer (some ⟨b,0,none⟩),.int .i64 m] w fun e w'=>e=.returned (.int .u64 ((beN ((x.data.toList.drop i).take m):Nat):Int))∧RdAt w' b x (i+m) false∧w.grownBy w' (some b):=by
 have E:maxLen=9223372036854775807:=rfl;have c0:=zR w b 0 _ _ _ h;have c1:=zR w b 1 _ _ _ h;have c2:=zR w b 2 _ _ _ h;simp at c0 c1 c2;have H:=zH h;have q1:IntKind.i64.wrap ((x.size:Int) - (i:Int))=(x.size:Int) - (i:Int):=by rw[IntKind.wrap_i64];omega
 have q2:¬ (x.size:Int) - (i:Int)<(m:Int):=by omega
 have q3:(m:Int)≤(x.size:Int) - (i:Int):=by omega
 have q4:IntKind.i64.wrap ((i:Int)+(m:Int))=(i:Int)+(m:Int):=by rw[IntKind.wrap_i64];omega
 have q5:(i:Int)+(m:Int)≤(x.size:Int):=by omega
 have q6:(0:Int)≤(i:Int)+(m:Int):=by omega
 have q7:(i:Int)≤(i:Int)+(m:Int):=by omega
 have q8:(0:Int)≤(i:Int):=by omega
 have q9:((i:Int)+(m:Int)).toNat=i+m:=by omega
 have G:(m:Int)≤8:=by omega
 have s:=fun W:World=>Lib.run_convert_string_bytes (P:=Tryz.prog) W 9 244 5 (x.extract i (i+m)) Tryz.underlying9 Tryz.underlying244 Tryz.underlying5;have t:(x.extract i (i+m)).size=m:=by rw[ByteArray.size_extract];omega
 rw[t] at s;clear h F;go_enter Tryz.func321,Tryz.ntmps321;go_wp2_with fail;go_quiet (fail)
 have a:=hAc (Below.refl w.heap.size w) nq;have g:=zH ((a.block b H.o.lt).trans H.o);have u:=zH a;generalize w.drewN nq=w0 at a g u ⊢;have d0:=zR w0 b 0 _ _ _ g.o;have d1:=zR w0 b 1 _ _ _ g.o;simp at d0 d1;clear c0 c1 c2 a;go_wp2_with fail;have y:=(zL g.o)
 go_region_with (fail)
 all_goals (try simp only[Act.put,List.getElem_toArray,List.getElem_cons_succ,List.getElem_cons_zero,List.setIfInBounds_toArray,List.set_cons_zero,List.set_cons_succ])
 all_goals
  have z:=Lib.bytesWorld_size w0.drew 5 (x.extract i (i+m));have c:Below w0.heap.size w0 (Lib.bytesWorld w0.drew 5 (x.extract i (i+m))):=(Below.drew (Below.refl _ w0)).trans (hEn w0.drew _);have d:∀ j,j<m→(Lib.bytesWorld w0.drew 5 (x.extract i (i+m))).cell? ⟨w0.heap.size,j,none⟩=some (.int .u8 (((x.extract i (i+m)).data.toList.getD j 0).toNat:Int)):=fun j I=>Lib.bytesWorld_cell w0.drew _ (x.extract i (i+m)) j (by omega);have D:(x.extract i (i+m)).data.toList.length=m:=by rw[Array.length_toList];exact t
  have r:zI ((x.extract i (i+m)).data.toList=(x.data.toList.drop i).take m):=zH (by
   have h:=hQc x.data.toList i (i+m);rw[hIl] at h;rw[h,hPm,Nat.add_sub_cancel_left])
  generalize (x.extract i (i+m)).data.toList=l at d D r;generalize Lib.bytesWorld w0.drew 5 (x.extract i (i+m))=w5 at z c d ⊢;have B:=zH c;have C:=zH d;have q:=zH ((c.block b y).trans g.o);clear s d0 d1 c d q1 q2 q3;go_wp2_with fail;go_loopw [5,7,48] (fun n _ j wr=>∃ k:Nat,k≤m∧j=.int .i64 k∧n=.int .u64 ((beN (l.take k):Nat):Int)∧w5=wr) (fun _ _ j _=>m - (intOf j).toNat)
  case atStart=>exact⟨0,by omega,rfl,rfl,rfl⟩
  case round=>
   obtain⟨k,J,rfl,rfl,rfl⟩:=hrel;by_cases hkm:k<m
   ·have n0:0≤(k:Int):=by omega
    have n1:(k:Int)<(m:Int):=by omega
    have hc:=C.o k hkm;have v:zI (beN (l.take (k+1))=beN (l.take k)*256+(l.getD k 0).toNat):=zH (by rw[takeU l k (by omega),hUy]);have f:=hRz l k (by omega);have a:=(l.getD k 0).toNat_lt;generalize (l.getD k 0).toNat=cb at hc v a;generalize beN (l.take k)=N at v f ⊢;have a1:=shl8 N f;have a2:IntKind.u64.wrap (cb:Int)=(cb:Int):=by rw[IntKind.wrap_u64];omega
    have a3:=or8 N cb f a;go_wp2_with fail;exact⟨⟨k+1,by omega,by go_num,by rw[v.o];go_num,trivial⟩,by simp[intOf];omega⟩
   ·obtain rfl:k=m:=by omega
    have e1:=zR w5 b 1 _ _ _ q.o;have f1:=frozen_of_row w5 b 1 _ _ q.o;simp at e1;rw[List.take_of_length_le (by omega)];clear hkm;go_wp2_with fail;go_ret;refine⟨by rw[←r.o];rfl,?_,hAb (hAa (u.o.trans (B.o.mono u.o.size)) (some b)) (p:=⟨b,1,none⟩) (.inl rfl) _⟩;show(w5.setCell ⟨b,1,none⟩ (.int .i64 ((i:Int)+(k:Int)))).heap[b]?=_;rw[heap_setCell_same w5 b 1 _ _ _ q.o,Int.natCast_add];rfl
theorem hQb {w w':World} {b:Nat} (h:w=w'):w.grownBy w' (some b):=by subst h;exact hAa (Below.refl _ _) (some b)
def rdN (x:ByteArray) (m i:Nat) (bad:Bool):Nat×Nat×Bool:=
 if bad then(0,i,true) else if x.size<i+m then(0,i,true) else(beN ((x.data.toList.drop i).take m),i+m,false)
theorem hFh (b:Nat) (x:ByteArray) (d:x.size≤maxLen) (i:Nat) (hi:i≤x.size) (bad:Bool) (m:Nat) (a:m≤8) (w:World) (h:RdAt w b x i bad) :
  Calls Tryz.prog 321 #[.pointer (some ⟨b,0,none⟩),.int .i64 m] w fun e w'=>e=.returned (.int .u64 (((rdN x m i bad).1:Nat):Int))∧RdAt w' b x (rdN x m i bad).2.1 (rdN x m i bad).2.2∧w.grownBy w' (some b):=by
 unfold rdN;cases bad with
 |true=>exact(hIy b x i m w h).mono fun e w' ⟨f,c⟩=>⟨f,by subst c;exact h,hQb c⟩
 |false=>
  by_cases hs:x.size<i+m
  ·rw[if_pos hs];exact hF9 b x d i hi m a hs w h
  ·rw[if_neg hs];exact hFi b x d i m a (by omega) w h
theorem gAj (x:ByteArray) (m i:Nat) (hi:i≤x.size) (bad:Bool):(rdN x m i bad).2.1≤x.size:=by
 unfold rdN;cases bad with
 |true=>exact hi
 |false=>by_cases hs:x.size<i+m<;>simp[hs]<;>omega
theorem hLu:∀ (l:List UInt8),l.length≤2→beN l<65536
 |[],_=>by decide
 |[a],_=>by have:=a.toNat_lt;simp[beN];omega
 |[a,c],_=>by have:=a.toNat_lt;have:=c.toNat_lt;simp[beN];omega
 |_::_::_::_,h=>by simp at h
theorem hTt (x:ByteArray) (m i:Nat) (a:m≤2) (bad:Bool):(rdN x m i bad).1<65536:=by
 unfold rdN;cases bad with
 |true=>rw[if_pos rfl];show 0<65536;decide
 |false=>
  by_cases hs:x.size<i+m
  ·simp[hs]
  ·simp only[hs,if_false];exact hLu _ (by rw[List.length_take];omega)
theorem hX1 (b:Nat) (x:ByteArray) (g:x.size≤maxLen) (i:Nat) (hi:i≤x.size) (bad:Bool) (w:World) (h:RdAt w b x i bad) :
  Calls Tryz.prog 304 #[.pointer (some ⟨b,0,none⟩)] w fun e w'=>e=.returned (.int .i64 (((rdN x 1 i bad).1:Nat):Int))∧RdAt w' b x (rdN x 1 i bad).2.1 (rdN x 1 i bad).2.2∧w.grownBy w' (some b):=by
 have H:=zH (hFh b x g i hi bad 1 (by omega) w h);have a:=hTt x 1 i (by omega) bad;generalize rdN x 1 i bad=r at H a ⊢;obtain⟨v,j,c⟩:=r;have q:IntKind.i64.wrap (v:Int)=(v:Int):=by rw[IntKind.wrap_i64];simp only at a;omega
 clear h;go_enter Tryz.func304,Tryz.ntmps304;go_wp2_with fail;refine H.o.mono ?_;rintro e w1 ⟨rfl,f,d⟩;go_wp2_with fail;go_ret;exact⟨rfl,f,d⟩
theorem hXy (x:ByteArray) (i:Nat) (bad:Bool):(rdN x 4 i bad).1<4294967296:=by
 unfold rdN;cases bad with
 |true=>rw[if_pos rfl];show 0<4294967296;decide
 |false=>
  by_cases hs:x.size<i+4
  ·simp[hs]
  ·simp only[hs,if_false];have a:=hPl ((x.data.toList.drop i).take 4);have b:256 ^ ((x.data.toList.drop i).take 4).length≤256 ^ 4:=Nat.pow_le_pow_right (by decide) (by rw[List.length_take];omega);have c:256 ^ 4=4294967296:=by decide
   show beN _<_;omega
theorem hX4 (b:Nat) (x:ByteArray) (g:x.size≤maxLen) (i:Nat) (hi:i≤x.size) (bad:Bool) (w:World) (h:RdAt w b x i bad) :
  Calls Tryz.prog 308 #[.pointer (some ⟨b,0,none⟩)] w fun e w'=>e=.returned (.int .i64 (((rdN x 4 i bad).1:Nat):Int))∧RdAt w' b x (rdN x 4 i bad).2.1 (rdN x 4 i bad).2.2∧w.grownBy w' (some b):=by
 have H:=zH (hFh b x g i hi bad 4 (by omega) w h);have a:=hXy x i bad;generalize rdN x 4 i bad=r at H a ⊢;obtain⟨v,j,c⟩:=r;have q:IntKind.i64.wrap (v:Int)=(v:Int):=by rw[IntKind.wrap_i64];simp only at a;omega
 clear h;go_enter Tryz.func308,Tryz.ntmps308;go_wp2_with fail;refine H.o.mono ?_;rintro e w1 ⟨rfl,f,d⟩;go_wp2_with fail;go_ret;exact⟨rfl,f,d⟩
theorem hXz (b:Nat) (x:ByteArray) (f:x.size≤maxLen) (i:Nat) (hi:i≤x.size) (bad:Bool) (w:World) (h:RdAt w b x i bad) :
  Calls Tryz.prog 310 #[.pointer (some ⟨b,0,none⟩)] w fun e w'=>e=.returned (.int .u64 (((rdN x 8 i bad).1:Nat):Int))∧RdAt w' b x (rdN x 8 i bad).2.1 (rdN x 8 i bad).2.2∧w.grownBy w' (some b):=by
 have H:=zH (hFh b x f i hi bad 8 (by omega) w h);generalize rdN x 8 i bad=r at H ⊢;obtain⟨v,j,c⟩:=r;clear h;go_enter Tryz.func310,Tryz.ntmps310;go_wp2_with fail;refine H.o.mono ?_;rintro e w1 ⟨rfl,d,a⟩;go_wp2_with fail;go_ret;exact⟨rfl,d,a⟩
theorem hX5 (b:Nat) (x:ByteArray) (g:x.size≤maxLen) (i:Nat) (hi:i≤x.size) (bad:Bool) (w:World) (h:RdAt w b x i bad) :
  Calls Tryz.prog 322 #[.pointer (some ⟨b,0,none⟩)] w fun e w'=>e=.returned (.int .i64 (((rdN x 2 i bad).1:Nat):Int))∧RdAt w' b x (rdN x 2 i bad).2.1 (rdN x 2 i bad).2.2∧w.grownBy w' (some b):=by
 have H:=zH (hFh b x g i hi bad 2 (by omega) w h);have a:=hTt x 2 i (by omega) bad;generalize rdN x 2 i bad=r at H a ⊢;obtain⟨v,j,c⟩:=r;have q:IntKind.i64.wrap (v:Int)=(v:Int):=by rw[IntKind.wrap_i64];simp only at a;omega
 clear h;go_enter Tryz.func322,Tryz.ntmps322;go_wp2_with fail;refine H.o.mono ?_;rintro e w1 ⟨rfl,f,d⟩;go_wp2_with fail;go_ret;exact⟨rfl,f,d⟩
theorem hPt (b:Nat) (x:ByteArray) (c:x.size≤maxLen) (i:Nat) (hi:i≤x.size) (bad:Bool) (w:World) (h:RdAt w b x i bad) :
  Calls Tryz.prog 307 #[.pointer (some ⟨b,0,none⟩)] w fun e w'=>e=.returned (.int .i64 ((x.size - i:Nat):Int))∧Below w.heap.size w w':=by
 have a:maxLen=9223372036854775807:=rfl;have c0:=zR w b 0 _ _ _ h;have c1:=zR w b 1 _ _ _ h;simp at c0 c1;have q1:IntKind.i64.wrap ((x.size:Int) - (i:Int))=(x.size:Int) - (i:Int):=by rw[IntKind.wrap_i64];omega
 have Q:=zH (show(x.size:Int) - (i:Int)=((x.size - i:Nat):Int) by omega);clear h;go_enter Tryz.func307,Tryz.ntmps307;go_wp2_with fail;go_quiet (fail)
 go_wp2_with fail;go_ret;refine⟨?_,hAc (Below.refl _ _) _⟩;show Ending.returned (.int .i64 ((x.size:Int) - (i:Int)))=_;rw[Q.o]
def endN (x:ByteArray) (i:Nat) (bad:Bool):Int:=if bad then 2 else if i<x.size then 5 else 0
theorem hZl (b:Nat) (x:ByteArray) (f:x.size≤maxLen) (i:Nat) (hi:i≤x.size) (bad:Bool) (w:World) (h:RdAt w b x i bad) :
  Calls Tryz.prog 324 #[.pointer (some ⟨b,0,none⟩)] w fun e w'=>e=.returned (.int .i64 (endN x i bad))∧Below w.heap.size w w':=by
 have H:=zH (hPt b x f i hi bad w h);have c2:=zR w b 2 _ _ _ h;simp at c2;clear h;unfold endN;cases bad with
 |true=>
  go_enter Tryz.func324,Tryz.ntmps324;go_wp2_with fail;go_ret;exact⟨rfl,Below.refl _ _⟩
 |false=>
  by_cases hs:i<x.size
  ·obtain⟨d,c⟩:∃ d,x.size - i=d+1:=⟨x.size - i - 1,by omega⟩;rw[c] at H;have q:(0:Int)<((d+1:Nat):Int):=by omega
   generalize d+1=z at H q;go_enter Tryz.func324,Tryz.ntmps324;go_wp2_with fail;refine H.o.mono ?_;rintro e w1 ⟨rfl,a⟩;go_wp2_with fail;go_ret;exact⟨by simp[hs],a⟩
  ·have c:x.size - i=0:=by omega
   rw[c] at H;go_enter Tryz.func324,Tryz.ntmps324;go_wp2_with fail;refine H.o.mono ?_;rintro e w1 ⟨rfl,a⟩;go_wp2_with fail;go_ret;exact⟨by simp[hs],a⟩
end Go.Proofs.YtlibpcllceepkaaGreat
