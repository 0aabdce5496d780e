/- Joined texts of the claim. No condition. -/
import Derived.Test.YtlibpcllceepkaaGreatB01
import Derived.Test.YtlibpcllceepkaaGreatB00
import Derived.Test.YtlibpcllceepkaaGreatShelf
import Derived.Deep.RegionLaw
import Derived.Laws.OwnMore
import Derived.ArgAppend
namespace Go.Proofs.YtlibpcllceepkaaGreat
open Go.RowKit
set_option maxRecDepth 100000
set_option linter.unusedVariables false
set_option linter.unusedSimpArgs false
set_option maxHeartbeats 16000000
structure Rq where
 st:Nat
 kind:Nat
 key:ByteArray
 real:Nat
structure Rq.Ok (q:Rq):Prop where
 s1:1≤q.st
 s2:q.st≤1000
 k1:1≤q.kind
 k5:q.kind≤5
 z1:1≤q.key.size
 z2:q.key.size≤16
 op:opOk q.kind q.key q.real 0=true
 lt:q.real<18446744073709551616
def Rq.v (q:Rq):Array Value:=#[.int .i64 1,.int .i64 q.st,.int .i64 q.kind,.string q.key,.float .f64 q.real,.int .i64 0]
def nullV:Array Value:=#[.int .i64 0,.int .i64 0,.int .i64 0,.string ⟨#[]⟩,.float .f64 0,.int .i64 0]
def six (a b c:Int) (d:ByteArray) (e:Nat) (f:Int):Array Value:=#[.int .i64 a,.int .i64 b,.int .i64 c,.string d,.float .f64 e,.int .i64 f]
theorem hAf {w:World} {B:Nat} {T:TypeId} {fr:Nat×Nat} {a b c:Int} {d:ByteArray} {e:Nat} {f:Int} (h:w.heap[B]?=some (.cells (six a b c d e f) T fr)) :
  w.cell? ⟨B,0,none⟩=some (.int .i64 a)∧w.cell? ⟨B,1,none⟩=some (.int .i64 b)∧w.cell? ⟨B,2,none⟩=some (.int .i64 c)∧w.cell? ⟨B,3,none⟩=some (.string d)∧w.cell? ⟨B,4,none⟩=some (.float .f64 e)∧w.cell? ⟨B,5,none⟩=some (.int .i64 f):=
 ⟨zR w B 0 _ _ _ h,zR w B 1 _ _ _ h,zR w B 2 _ _ _ h,zR w B 3 _ _ _ h,zR w B 4 _ _ _ h,zR w B 5 _ _ _ h⟩
theorem hKn (st:Nat) (s1:1≤st) (s2:st≤1000) (k:Int) (h:k≤0∨k=1∨k=2∨k=3∨k=4∨k=5) (key:ByteArray) (j:key.size≤maxLen) (r:Nat) (id:Int) (w:World) :
  Calls Tryz.prog 82 #[.agg (six 1 st k key r id)] w fun e w'=>e=.returned (.bool (opOk k key r id))∧Below w.heap.size w w':=by
 have d:=fun n lo hi w=>zH (hIf n lo hi w);have c:=fun w=>zH (hQ8 k h key j r id w);unfold opV at c;have b:Below w.heap.size w (w.alloc (.cells #[.int .i64 1,.int .i64 st,.int .i64 k,.string key,.float .f64 r,.int .i64 id] 36)):=(Below.refl _ _).alloc (Nat.le_refl _) _;have a:=zH b;have f:=zH (heap_alloc_new w (.cells #[.int .i64 1,.int .i64 st,.int .i64 k,.string key,.float .f64 r,.int .i64 id] 36));generalize opOk k key r id=res at c ⊢;have n1:(1:Int)≤(st:Int):=by omega
 have n2:(st:Int)≤1048576:=by omega
 have d1:decide ((1:Int)≤1∧(1:Int)≤8)=true:=by decide
 have d2:decide ((1:Int)≤(st:Int)∧(st:Int)≤1048576)=true:=decide_eq_true ⟨n1,n2⟩;have D2:=zH d2;unfold six;clear h b d2 d1;go_enter Tryz.func82,Tryz.ntmps82;go_wp2_with fail;obtain⟨c0,c1,c2,c3,c4,c5⟩:=hAf f.o;generalize w.alloc (.cells #[.int .i64 1,.int .i64 st,.int .i64 k,.string key,.float .f64 r,.int .i64 id] 36)=w0 at a f c0 c1 c2 c3 c4 c5 ⊢;refine(d 1 1 8 w0).o.mono ?_;rintro e w1 ⟨rfl,rfl⟩;go_wp2_with fail;refine(d _ _ _ w0).o.mono ?_;rintro e w1 ⟨rfl,rfl⟩;rw[D2.o];go_wp2_with fail;refine(c w0).o.mono ?_;rintro e w1 ⟨rfl,g⟩;have i:=zH (zB a.o g);clear g;go_wp2_with fail;go_ret;exact⟨rfl,i.o⟩
theorem hCr (q:Rq) (h:q.Ok) (w:World):Calls Tryz.prog 82 #[.agg q.v] w fun e w'=>e=.returned (.bool true)∧Below w.heap.size w w':=by
 have:=hKn q.st h.s1 h.s2 q.kind (by have:=h.k1;have:=h.k5;omega) q.key (by have:=h.z2;unfold maxLen;omega) q.real 0 w;rw[h.op] at this;exact this
theorem hMr (a b:Nat) (e:a<65536) (f:b<65536):bits .or .i64 (a:Int) (b:Int)=((a ||| b:Nat):Int):=by
 have g:a ||| b<2 ^ 16:=Nat.or_lt_two_pow e f
 have c:(BitVec.ofInt 64 (a:Int)).toNat=a:=by
  rw[BitVec.ofInt_natCast,BitVec.toNat_ofNat];exact Nat.mod_eq_of_lt (by omega)
 have d:(BitVec.ofInt 64 (b:Int)).toNat=b:=by
  rw[BitVec.ofInt_natCast,BitVec.toNat_ofNat];exact Nat.mod_eq_of_lt (by omega)
 show IntKind.i64.wrap ((BitVec.ofInt 64 (a:Int) ||| BitVec.ofInt 64 (b:Int)).toNat:Int)=_;rw[BitVec.toNat_or,c,d,IntKind.wrap_i64];omega
theorem hEx (q:Rq) (h:q.Ok) (w:World):Calls Tryz.prog 140 #[.agg q.v] w fun e w'=>e=.returned (.bool false)∧Below w.heap.size w w':=by
 have a:Below w.heap.size w (w.alloc (.cells #[.int .i64 1,.int .i64 q.st,.int .i64 q.kind,.string q.key,.float .f64 q.real,.int .i64 0] 36)):=(Below.refl _ _).alloc (Nat.le_refl _) _;have b:=zH a;have b1:bits .or .i64 1 (q.st:Int)=((1 ||| q.st:Nat):Int):=hMr 1 q.st (by omega) (by have:=h.s2;omega);have l1:1 ||| q.st<2 ^ 16:=Nat.or_lt_two_pow (by omega) (by have:=h.s2;omega)
 have b2:bits .or .i64 ((1 ||| q.st:Nat):Int) (q.kind:Int)=(((1 ||| q.st) ||| q.kind:Nat):Int):=hMr _ _ (by omega) (by have:=h.k5;omega);have l2:(1 ||| q.st) ||| q.kind<2 ^ 16:=Nat.or_lt_two_pow l1 (by have:=h.k5;omega)
 have b3:bits .or .i64 (((1 ||| q.st) ||| q.kind:Nat):Int) 0=(((1 ||| q.st) ||| q.kind ||| 0:Nat):Int):=hMr _ 0 (by omega) (by omega);have b4:((((1 ||| q.st) ||| q.kind ||| 0:Nat):Int) == 0)=false:=by
  rw[beq_eq_false_iff_ne];intro e;have e2:(1 ||| q.st) ||| q.kind ||| 0=0:=by exact_mod_cast e
  rw[Nat.or_eq_zero_iff,Nat.or_eq_zero_iff,Nat.or_eq_zero_iff] at e2;exact absurd e2.1.1.1 (by decide)
 clear l1 l2 a;unfold Rq.v;generalize (1 ||| q.st:Nat)=x1 at b1 b2 b3 b4;generalize (x1 ||| q.kind:Nat)=x2 at b2 b3 b4;generalize (x2 ||| 0:Nat)=x3 at b3 b4;go_enter Tryz.func140,Tryz.ntmps140;go_wp2_with fail;go_ret;exact⟨rfl,b.o⟩
theorem hKb (w:World):Calls Tryz.prog 140 #[.agg nullV] w fun e w'=>e=.returned (.bool true)∧Below w.heap.size w w':=by
 have b:Below w.heap.size w (w.alloc (.cells nullV 36)):=(Below.refl _ _).alloc (Nat.le_refl _) _;have a:=zH b;have c:=fun w=>zH (hD8 0 w);have hc:canon 0=0:=by decide +kernel
 rw[hc] at c;have b1:bits .or .i64 0 0=0:=by decide
 clear b hc;unfold nullV;unfold nullV at a;go_enter Tryz.func140,Tryz.ntmps140;go_wp2_with fail;refine(c _).o.mono ?_;rintro e w1 ⟨rfl,rfl⟩;go_wp2_with fail;go_ret;exact⟨rfl,a.o⟩
def Rq.tL (q:Rq):List UInt8:=beL 1 1++(beL 1 1++(be4 q.st++(beL 1 q.kind++(beL 2 q.key.size++(q.key.data.toList++(be8 (canon q.real)++beL 1 0))))))
def Rq.t (q:Rq):ByteArray:=bs q.tL
theorem hDk (q:Rq) (h:q.Ok) (w:World):Calls Tryz.prog 109 #[.agg q.v] w fun e w'=>e=.returned (.tuple #[.string q.t,.int .i64 0])∧Below w.heap.size w w':=by
 have L:Below w.heap.size w (w.alloc (.cells q.v 36)):=(Below.refl _ _).alloc (Nat.le_refl _) _;have HN:=fun w=>zH (hEx q h w);have HR:=fun w=>zH (hCr q h w);have Z:=fun w=>zH (hD8 q.real w);have l:=zH (heap_alloc_new w (.cells q.v 36));have HP:=fun w=>zH (hEz 64 (by decide) w);have Hk:=h.k5;have M:q.key.data.toList.length=q.key.size:=Array.length_toList;have d:=zH M;clear M;have j:=zH L;have Hm:=h.s2;have Hl:=h.z2;have p:w.heap.size<(w.alloc (.cells q.v 36)).heap.size:=by simp
 clear L;unfold Rq.v at l j HN HR p ⊢;go_enter Tryz.func109,Tryz.ntmps109;go_wp2_with fail;generalize w.alloc (.cells #[.int .i64 1,.int .i64 q.st,.int .i64 q.kind,.string q.key,.float .f64 q.real,.int .i64 0] 36)=w0 at j l p ⊢;obtain⟨wB,k⟩:∃ n,n=w.heap.size:=⟨_,rfl⟩;rw[←k] at l p;rw[←k];have Hc:=zH k;clear k;refine(HN w0).o.mono ?_;rintro e w1 ⟨rfl,a⟩;have O:=zH ((a.block _ p).trans l.o);have r:=zH (zB j.o a);have Hf:wB<w1.heap.size:=by have:=a.size;omega
 obtain⟨c0,c1,c2,c3,c4,c5⟩:=hAf O.o;clear a l j;go_wp2_with fail;refine(HR w1).o.mono ?_;rintro e w2 ⟨rfl,a⟩;have Y:=zH ((a.block _ Hf).trans O.o);have s:=zH (zB r.o a);have Hg:wB<w2.heap.size:=by have:=a.size;omega
 clear a O r c0 c1 c2 c3 c4 c5;go_wp2_with fail;refine(HP w2).o.mono ?_;rintro e w3 ⟨rfl,N,a⟩;have P:=zH ((a.block _ Hg).trans Y.o);have u:=zH (zB s.o a);have i:=zH N;obtain⟨b,m⟩:=zN (w2.heap.size);rw[←m] at i;rw[←m];have g:wB<b:=by omega
 have f:zI (w.heap.size≤b):=zH (by have:=Hc.o;omega);clear a Y s N m;have Hi:wB<w3.heap.size:=by have:=i.o.lt;omega
 have E:=i;clear i;obtain⟨c0,c1,c2,c3,c4,c5⟩:=hAf P.o;go_wp2_with fail;refine(hA5 b _ _ 1 (by decide) (by have:=d.o;simp[beL,be4,be8]<;>omega) (by omega) w3 E.o).mono ?_;rintro e w4 ⟨rfl,c,a,_⟩;have Q:=zH ((a.block _ g).trans P.o);have x:=zH (u.o.trans (a.mono f.o));have F:=zH c;clear a c P u E c0 c1 c2 c3 c4 c5;obtain⟨c0,c1,c2,c3,c4,c5⟩:=hAf Q.o;go_wp2_with fail;refine(hA5 b _ _ 1 (by decide) (by have:=d.o;simp[beL,be4,be8]<;>omega) (by omega) w4 F.o).mono ?_;rintro e w5 ⟨rfl,c,a,_⟩;have R:=zH ((a.block _ g).trans Q.o);have y:=zH (x.o.trans (a.mono f.o));have G:=zH c;clear a c Q x F c0 c1 c2 c3 c4 c5;obtain⟨c0,c1,c2,c3,c4,c5⟩:=hAf R.o;go_wp2_with fail;refine(hJo b _ _ q.st (by omega) (by have:=d.o;simp[beL,be4,be8]<;>omega) (by omega) w5 G.o).mono ?_;rintro e w6 ⟨rfl,c,a⟩;have S:=zH ((a.block _ g).trans R.o);have z:=zH (y.o.trans (a.mono f.o));have H:=zH c;clear a c R y G c0 c1 c2 c3 c4 c5;obtain⟨c0,c1,c2,c3,c4,c5⟩:=hAf S.o;go_wp2_with fail;refine(hA5 b _ _ q.kind (by omega) (by have:=d.o;simp[beL,be4,be8]<;>omega) (by omega) w6 H.o).mono ?_;rintro e w7 ⟨rfl,c,a,_⟩;have T:=zH ((a.block _ g).trans S.o);have B:=zH (z.o.trans (a.mono f.o));have I:=zH c;clear a c S z H c0 c1 c2 c3 c4 c5;obtain⟨c0,c1,c2,c3,c4,c5⟩:=hAf T.o;go_wp2_with fail;refine(hPr b _ _ q.key (by omega) (by have:=d.o;simp[beL,be4,be8]<;>omega) (by omega) w7 I.o).mono ?_;rintro e w8 ⟨rfl,c,a⟩;have U:=zH ((a.block _ g).trans T.o);have C:=zH (B.o.trans (a.mono f.o));have J:=zH c;clear a c T B I c0 c1 c2 c3 c4 c5;obtain⟨c0,c1,c2,c3,c4,c5⟩:=hAf U.o;go_wp2_with fail;refine(Z w8).o.mono ?_;rintro e wx ⟨rfl,rfl⟩;go_wp2_with fail;refine(hJn b _ _ (canon q.real) (by have:=d.o;simp[beL,be4,be8]<;>omega) (by omega) w8 J.o).mono ?_;rintro e w9 ⟨rfl,c,a⟩;have V:=zH ((a.block _ g).trans U.o);have D:=zH (C.o.trans (a.mono f.o));have K:=zH c;clear a c U C J c0 c1 c2 c3 c4 c5;obtain⟨c0,c1,c2,c3,c4,c5⟩:=hAf V.o;go_wp2_with fail;refine(hA5 b _ _ 0 (by decide) (by have:=d.o;simp[beL,be4,be8]<;>omega) (by omega) w9 K.o).mono ?_;rintro e w10 ⟨rfl,c,a,_⟩;have Hj:=zH ((a.block _ g).trans V.o);have W:=zH (D.o.trans (a.mono f.o));have X:=zH c;clear a c V D K c0 c1 c2 c3 c4 c5;go_wp2_with fail;refine(hD6 b _ _ w10 X.o).mono ?_;rintro e wx ⟨rfl,rfl⟩;go_wp2_with fail;go_ret2;exact⟨rfl,W.o⟩
theorem hBw (s t:ByteArray) (b:Bool) (h:decide (s=t)=b):(s.toList == t.toList)=b:=by
 rw[←h,Bool.eq_iff_iff];simp only[beq_iff_eq,decide_eq_true_eq,Lib.toList_data];exact⟨fun e=>by rw[←hIl s,←hIl t,e],fun e=>by rw[e]⟩
theorem hW4 (a b:Nat) (g:a<4294967296) (i:b<4294967296) (h:be4 a=be4 b):a=b:=by
 simp only[be4,List.cons.injEq,and_true] at h;obtain⟨c,d,e,f⟩:=h;have e0:=congrArg UInt8.toNat c;have e1:=congrArg UInt8.toNat d;have e2:=congrArg UInt8.toNat e;have e3:=congrArg UInt8.toNat f;simp only[UInt8.toNat_ofNat'] at e0 e1 e2 e3;omega
theorem hYa {p q:Rq} (e:p.Ok) (f:q.Ok) (h:p.t=q.t):p.st=q.st:=by
 have a:=hYw h;unfold Rq.tL at a;have b:=(List.append_inj a rfl).2;have c:=(List.append_inj b rfl).2;have d:=(List.append_inj c rfl).1;exact hW4 _ _ (by have:=e.s2;omega) (by have:=f.s2;omega) d
theorem hG0 (p q:Rq) (u:p.Ok) (x:q.Ok) (b:Bool) (f:decide (p.t=q.t)=b) (w:World):Calls Tryz.prog 199 #[.agg p.v,.agg q.v] w fun e w'=>e=.returned (.bool b)∧Below w.heap.size w w':=by
 have m:=fun w=>zH (hDk p u w);have n:=fun w=>zH (hDk q x w);have d:Below w.heap.size w (w.alloc (.cells p.v 36)):=(Below.refl _ _).alloc (Nat.le_refl _) _;have c:=zH (d.alloc (by simp) (.cells q.v 36));have l:=zH ((heap_alloc_old (w.alloc (.cells p.v 36)) (.cells q.v 36) (show w.heap.size<_ by simp)).trans (heap_alloc_new w (.cells p.v 36)));have a:=heap_alloc_new (w.alloc (.cells p.v 36)) (.cells q.v 36);rw[show(w.alloc (.cells p.v 36)).heap.size=w.heap.size+1 by simp] at a;have a:=zH a;clear d;generalize p.t=tp at m f;generalize q.t=tq at n f;unfold Rq.v at m n c l a ⊢;go_enter Tryz.func199,Tryz.ntmps199;go_wp2_with fail;have s:w.heap.size+1<((w.alloc (.cells #[.int .i64 1,.int .i64 p.st,.int .i64 p.kind,.string p.key,.float .f64 p.real,.int .i64 0] 36)).alloc (.cells #[.int .i64 1,.int .i64 q.st,.int .i64 q.kind,.string q.key,.float .f64 q.real,.int .i64 0] 36)).heap.size:=by simp
 generalize (w.alloc (.cells #[.int .i64 1,.int .i64 p.st,.int .i64 p.kind,.string p.key,.float .f64 p.real,.int .i64 0] 36)).alloc (.cells #[.int .i64 1,.int .i64 q.st,.int .i64 q.kind,.string q.key,.float .f64 q.real,.int .i64 0] 36)=w0 at c l a s ⊢;refine(m w0).o.mono ?_;rintro e w1 ⟨rfl,g⟩;have r:=zH ((g.block _ s).trans a.o);have h:=zH (zB c.o g);obtain⟨c0,c1,c2,c3,c4,c5⟩:=hAf r.o;clear g c a l;go_wp2_with fail;refine(n w1).o.mono ?_;rintro e w2 ⟨rfl,k⟩;have i:=zH (zB h.o k);clear k h c0 c1 c2 c3 c4 c5 r;have j:=hBw _ _ _ f;cases b with
 |true=>
  have y:=beq_iff_eq.1 j;clear f;go_wp2_with fail;go_ret;exact⟨rfl,i.o⟩
 |false=>
  have y:=beq_eq_false_iff_ne.1 j;clear f;go_wp2_with fail;go_ret;exact⟨rfl,i.o⟩
def headL (sg:Nat) (ns:List Nat):List UInt8:=beL 1 sg++(ns.map be4).flatten
theorem hIr (sg:Nat) (ns:List Nat) (k:Nat) (a:k<ns.length):headL sg (ns.take (k+1))=headL sg (ns.take k)++be4 (ns.getD k 0):=by
 unfold headL;rw[List.take_succ_eq_append_getElem a,List.map_append,List.flatten_append,List.getD_eq_getElem?_getD,List.getElem?_eq_getElem a];simp
theorem hJ3 (sg:Nat) (ns:List Nat) (k:Nat) (a:k≤ns.length):(headL sg (ns.take k)).length=1+4*k:=by
 induction k with
 |zero=>simp[headL,beL]
 |succ k ih=>rw[hIr sg ns k (by omega),List.length_append,ih (by omega)];simp[be4];omega
theorem hL8 (sg:Nat) (Q:sg<256) (t:ByteArray) (T:t.size≤1000000) (ns:List Nat) (P:ns.length≤3) (v:∀ i,i<ns.length→ns.getD i 0<4294967296) (B n c:Nat) (L:ns.length=n) (w:World) (J:B<w.heap.size) (hc:∀ k,k<n→w.cell? ⟨B,k,none⟩=some (.int .i64 ((ns.getD k 0:Nat):Int))) :
  Calls Tryz.prog 287 #[.int .i64 sg,.string t,.slice (some ⟨B,0,none⟩) n c] w fun e w'=>e=.returned (.tuple #[.string (bs (headL sg ns)++t),.int .i64 0])∧Below w.heap.size w w':=by
 have F:=zH (hEz 64 (by decide) w);have M:=zH hc;have C:=zH v;have m:=zH L;have n3:(n:Int)≤3:=by omega
 clear hc v P;go_enter Tryz.func287,Tryz.ntmps287;go_wp2_with fail;refine F.o.mono ?_;rintro e w1 ⟨rfl,d,a⟩;have q:=zH d;have h:=zH a;obtain⟨b,r⟩:=zN (w.heap.size);rw[←r] at q h J ⊢;have E:=zH r;clear a d F r L;go_wp2_with fail;refine(hA5 b [] 64 sg Q (by decide) (by decide) w1 q.o).mono ?_;rintro e w2 ⟨rfl,d,a,_⟩;have G:=zH d;have D:=zH (h.o.trans a);clear a d q h;go_wp2_with fail;go_loopw [10,19] (fun _ j wr=>∃ k:Nat,k≤n∧j=.int .i64 k∧zI (PkAt wr b (headL sg (ns.take k)) (63 - 4*k))∧zI (Below b w wr)) (fun _ j _=>n - (intOf j).toNat)
 case atStart=>exact⟨0,by omega,rfl,zH (by have:=G.o;simpa[headL] using this),D⟩
 case round=>
  obtain⟨k,S,rfl,d,a⟩:=hrel;by_cases hkn:k<n
  ·have n0:(0:Int)≤(k:Int):=by omega
   have n1:(k:Int)<(n:Int):=by omega
   have f:=(a.o.cell (p:=⟨B,k,none⟩) J).trans (M.o k hkn);have z:=C.o k (by have:=m.o;omega);have I:=zH (hIr sg ns k (by have:=m.o;omega));have R:=hJ3 sg ns k (by have:=m.o;omega);generalize ns.getD k 0=x at f z I;go_wp2_with fail;refine(hJo b _ _ x z (by omega) (by omega) wr d.o).mono ?_;rintro e w3 ⟨rfl,u,y⟩;rw[←I.o] at u;have H:=zH u;have l:=zH (a.o.trans y);clear u y d a f;go_wp2_with fail;exact⟨⟨k+1,by omega,by go_num,zH (by have:=H.o;rwa [show 63 - 4*k - 4=63 - 4*(k+1) by omega] at this),l⟩,by simp[intOf];omega⟩
  ·obtain rfl:k=n:=by omega
   clear hkn;go_wp2_with fail;refine(hD6 b _ _ wr d.o).mono ?_;rintro e w3 ⟨rfl,rfl⟩;have g:headL sg (ns.take k)=headL sg ns:=by rw[List.take_of_length_le (by have:=m.o;omega)]
   rw[g];have l:=a;clear d a g;have K:(bs (headL sg ns)).size≤1000000:=by
    have:=hJ3 sg ns ns.length (Nat.le_refl _);rw[List.take_length] at this;rw[hA3];have:=m.o;omega
   obtain⟨O,s⟩:=zN (bs (headL sg ns));rw[←s] at K ⊢;have N:=zH s;clear s;have q1:¬ 9223372036854775807<O.size+t.size:=by omega
   go_wp2_with fail;go_ret2;rw[←N.o];exact⟨rfl,by have:=l.o;rwa [E.o] at this⟩
theorem hKo (q:Rq) (h:q.Ok):q.t.size≤34:=by
 have a:q.key.data.toList.length=q.key.size:=Array.length_toList;have:=h.z2;unfold Rq.t;rw[hA3];simp only[Rq.tL,List.length_append,a];simp[beL,be4,be8];omega
def prepT (e v s:Nat) (q:Rq):ByteArray:=bs (headL 80 [e,v,s])++q.t
def stateT (s:Nat) (t:ByteArray):ByteArray:=bs (headL 83 [s])++t
theorem hFk (e v s:Nat) (l:e≤100000) (n:v≤100000) (m:s≤100000) (q:Rq) (k:q.Ok) (w:World) :
  Calls Tryz.prog 273 #[.int .i64 e,.int .i64 v,.int .i64 s,.agg q.v] w fun r w'=>r=.returned (.tuple #[.string (prepT e v s q),.int .i64 0])∧Below w.heap.size w w':=by
 have j:=fun w=>zH (hDk q k w);have a:Below w.heap.size w (w.alloc (.cells q.v 36)):=(Below.refl _ _).alloc (Nat.le_refl _) _;have b:=zH a;have g:zI (prepT e v s q=bs (headL 80 [e,v,s])++q.t):=zH rfl;generalize prepT e v s q=res at g ⊢;clear a;unfold Rq.v at j b ⊢;go_enter Tryz.func273,Tryz.ntmps273;go_wp2_with fail;generalize w.alloc (.cells #[.int .i64 1,.int .i64 q.st,.int .i64 q.kind,.string q.key,.float .f64 q.real,.int .i64 0] 36)=w0 at b ⊢;refine(j w0).o.mono ?_;rintro r w1 ⟨rfl,c⟩;have f:=zH (zB b.o c);clear c b;go_wp2_with fail;have a:Below w1.heap.size w1 (w1.alloc (.cells #[.int .i64 e,.int .i64 v,.int .i64 s] 3)):=(Below.refl _ _).alloc (Nat.le_refl _) _;have d:=heap_alloc_new w1 (.cells #[.int .i64 e,.int .i64 v,.int .i64 s] 3);refine(hL8 80 (by decide) q.t (by have:=hKo q k;omega) [e,v,s] (by simp) ?_ w1.heap.size 3 3 rfl _ (by simp) ?_).mono ?_
 ·intro i hi;have:i=0∨i=1∨i=2:=by simp at hi;omega
  rcases this with rfl | rfl | rfl<;>simp<;>omega
 ·intro i hi;have:i=0∨i=1∨i=2:=by omega
  rcases this with rfl | rfl | rfl
  ·exact zR _ _ 0 _ _ _ d
  ·exact zR _ _ 1 _ _ _ d
  ·exact zR _ _ 2 _ _ _ d
 ·rintro r w2 ⟨rfl,c⟩;rw[←g.o];have h:=zH (f.o.trans ((a.trans (c.mono a.size)).mono f.o.size));clear a c d;go_wp2_with fail;go_ret2;exact⟨rfl,h.o⟩
theorem hYg (s:Nat) (g:s≤100000) (t:ByteArray) (f:t.size≤1000000) (w:World) :
  Calls Tryz.prog 259 #[.int .i64 s,.string t] w fun r w'=>r=.returned (.tuple #[.string (stateT s t),.int .i64 0])∧Below w.heap.size w w':=by
 have b:zI (stateT s t=bs (headL 83 [s])++t):=zH rfl;generalize stateT s t=res at b ⊢;go_enter Tryz.func259,Tryz.ntmps259;go_wp2_with fail;have a:Below w.heap.size w (w.alloc (.cells #[.int .i64 s] 3)):=(Below.refl _ _).alloc (Nat.le_refl _) _;have d:=heap_alloc_new w (.cells #[.int .i64 s] 3);refine(hL8 83 (by decide) t f [s] (by simp) ?_ w.heap.size 1 1 rfl _ (by simp) ?_).mono ?_
 ·intro i hi;have:i=0:=by simp at hi;omega
  subst this;simp;omega
 ·intro i hi;have:i=0:=by omega
  subst this;exact zR _ _ 0 _ _ _ d
 ·rintro r w2 ⟨rfl,e⟩;rw[←b.o];have c:=zH (a.trans (e.mono a.size));clear a e d;go_wp2_with fail;go_ret2;exact⟨rfl,c.o⟩
def resT (code real:Nat):ByteArray:=bs (beL 1 code++be8 (canon real))
theorem hIa (code real:Nat) (hc:code≤8) (w:World) :
  Calls Tryz.prog 90 #[.agg #[.int .i64 code,.float .f64 real]] w fun r w'=>r=.returned (.tuple #[.string (resT code real),.int .i64 0])∧Below w.heap.size w w':=by
 have z:=fun lo hi w=>zH (hIf (code:Int) lo hi w);have t:=fun w=>zH (hD8 real w);have y:=fun w=>zH (hEz 64 (by decide) w);have D:=zH (decide_eq_true (show(0:Int)≤(code:Int)∧(code:Int)≤8 by omega));have l:Below w.heap.size w (w.alloc (.cells #[.int .i64 code,.float .f64 real] 43)):=(Below.refl _ _).alloc (Nat.le_refl _) _;have n:=zH (heap_alloc_new w (.cells #[.int .i64 code,.float .f64 real] 43));have c:=zH l;have x:w.heap.size<(w.alloc (.cells #[.int .i64 code,.float .f64 real] 43)).heap.size:=by simp
 have v:zI (resT code real=bs (beL 1 code++be8 (canon real))):=zH rfl;generalize resT code real=res at v ⊢;clear l;go_enter Tryz.func90,Tryz.ntmps90;go_wp2_with fail;generalize w.alloc (.cells #[.int .i64 code,.float .f64 real] 43)=w0 at c n x ⊢;refine(z 0 8 w0).o.mono ?_;rintro e w1 ⟨rfl,rfl⟩;rw[D.o];go_wp2_with fail;refine(y w0).o.mono ?_;rintro e w3 ⟨rfl,m,a⟩;have p:=zH ((a.block _ x).trans n.o);have i:=zH (zB c.o a);obtain⟨b,f⟩:=zN (w0.heap.size);have d:=zH m;rw[←f] at d;rw[←f];have h:w.heap.size<b:=by omega
 clear a m f c n;have c0:=zR w3 w.heap.size 0 _ _ _ p.o;simp at c0;go_wp2_with fail;refine(hA5 b _ _ code (by omega) (by simp) (by omega) w3 d.o).mono ?_;rintro e w4 ⟨rfl,g,a,_⟩;have q:=zH ((a.block _ h).trans p.o);have j:=zH (i.o.trans (a.mono (Nat.le_of_lt h)));have k:=zH g;clear a g p i d c0;have c1:=zR w4 w.heap.size 1 _ _ _ q.o;simp at c1;go_wp2_with fail;refine(t w4).o.mono ?_;rintro e wx ⟨rfl,rfl⟩;go_wp2_with fail;refine(hJn b _ _ (canon real) (by simp[beL]) (by omega) w4 k.o).mono ?_;rintro e w5 ⟨rfl,g,a⟩;have s:=zH (j.o.trans (a.mono (Nat.le_of_lt h)));have u:=zH g;clear a g q j k c1;go_wp2_with fail;refine(hD6 b _ _ w5 u.o).mono ?_;rintro e wx ⟨rfl,rfl⟩;go_wp2_with fail;go_ret2;refine⟨?_,s.o⟩;rw[v.o];rfl
def confL (e:Nat):List UInt8:=beL 1 67++(beL 2 e++beL 1 4)
def confT (e:Nat):ByteArray:=bs (confL e++[0,1,2,3])
def memL (k:Nat):List UInt8:=[0,1,2,3].take k
theorem hMl (k:Nat):(memL k).length≤4:=by unfold memL;rw[List.length_take];simp;omega
theorem hJ8 (k:Nat) (h:k<4):memL (k+1)=memL k++beL 1 k:=by
 obtain rfl | rfl | rfl | rfl:k=0∨k=1∨k=2∨k=3:=by omega
 all_goals rfl
theorem hF5 (e:Nat) (Z:e≤60) (A:Option Addr) (c:Nat) (w:World) (K:Mem w A c) :
  Calls Tryz.prog 94 #[.agg #[.int .i64 e,.slice A 4 c]] w fun r w'=>r=.returned (.tuple #[.string (confT e),.int .i64 0])∧Below w.heap.size w w':=by
 have l:Below w.heap.size w (w.alloc (.cells #[.int .i64 e,.slice A 4 c] 31)):=(Below.refl _ _).alloc (Nat.le_refl _) _;have F:=zH (heap_alloc_new w (.cells #[.int .i64 e,.slice A 4 c] 31));have h:=zH l;have U:=zH K;have Q:w.heap.size<(w.alloc (.cells #[.int .i64 e,.slice A 4 c] 31)).heap.size:=by simp
 have J:=zH (right4 e Z A c _ (K.keep l));have V:=fun w=>zH (hEz 8 (by decide) w);clear l K;go_enter Tryz.func94,Tryz.ntmps94;go_wp2_with fail;generalize w.alloc (.cells #[.int .i64 e,.slice A 4 c] 31)=w0 at h F Q J ⊢;refine J.o.mono ?_;rintro r w1 ⟨rfl,a⟩;have q:=zH ((a.block _ Q).trans F.o);have t:=zH (zB h.o a);have R:w.heap.size<w1.heap.size:=by have:=a.size;omega
 have c0:=zR w1 w.heap.size 0 _ _ _ q.o;have c1:=zR w1 w.heap.size 1 _ _ _ q.o;simp at c0 c1;clear a F h J;go_wp2_with fail;refine(V w1).o.mono ?_;rintro r w3 ⟨rfl,D,a⟩;have L:=zH ((a.block _ R).trans q.o);have u:=zH (zB t.o a);obtain⟨b,n⟩:=zN (w1.heap.size);have i:=zH D;rw[←n] at i;rw[←n];have f:w.heap.size<b:=by omega
 clear a D n t q c0 c1;go_wp2_with fail;refine(hA5 b _ _ 67 (by decide) (by simp) (by omega) w3 i.o).mono ?_;rintro r w4 ⟨rfl,d,a,_⟩;have G:=zH ((a.block _ f).trans L.o);have v:=zH (u.o.trans (a.mono (Nat.le_of_lt f)));have y:=zH d;clear a d L u i;have c0:=zR w4 w.heap.size 0 _ _ _ G.o;simp at c0;go_wp2_with fail;refine(hJp b _ _ e (by omega) (by simp[beL]) (by omega) w4 y.o).mono ?_;rintro r w5 ⟨rfl,d,a⟩;have H:=zH ((a.block _ f).trans G.o);have x:=zH (v.o.trans (a.mono (Nat.le_of_lt f)));have z:=zH d;clear a d G v y c0;have c1:=zR w5 w.heap.size 1 _ _ _ H.o;simp at c1;go_wp2_with fail;refine(hA5 b _ _ 4 (by decide) (by simp[beL]) (by omega) w5 z.o).mono ?_;rintro r w6 ⟨rfl,d,a,_⟩;have S:=zH ((a.block _ f).trans H.o);have M:=zH (x.o.trans (a.mono (Nat.le_of_lt f)));have O:=zH (show PkAt w6 b (confL e) 4 by simpa[confL] using d);clear a d H x z c1;have c1:=zR w6 w.heap.size 1 _ _ _ S.o;simp at c1;obtain⟨m1,m2,B,off,X,Y,g⟩:=U.o;subst X;have T:=zH g;unfold maxLen at m2;clear g;go_wp2_with fail;clear c1;go_loopw [6,29] (fun _ j wr=>∃ k:Nat,k≤4∧j=.int .i64 k∧zI (PkAt wr b (confL e++memL k) (4 - k))∧zI (Below w.heap.size w wr)∧zI (Below b w6 wr)) (fun _ j _=>4 - (intOf j).toNat)
 case atStart=>exact⟨0,by omega,rfl,zH (by simpa[memL] using O.o),M,zH (Below.refl _ _)⟩
 case round=>
  obtain⟨k,hk,rfl,d,a,C⟩:=hrel;by_cases hkn:k<4
  ·have n0:(0:Int)≤(k:Int):=by omega
   have n1:(k:Int)<4:=by omega
   have s:=(a.o.cell (p:=⟨B,off+k,none⟩) Y).trans (T.o k hkn);go_wp2_with fail;refine(hA5 b _ _ k (by omega) (by simp[confL,beL];have:=hMl k;omega) (by omega) wr d.o).mono ?_;rintro r w7 ⟨rfl,E,m,_⟩;have P:=zH (show PkAt w7 b (confL e++memL (k+1)) (4 - (k+1)) by
    rw[hJ8 k hkn,←List.append_assoc];exact E)
   have N:=zH (a.o.trans (m.mono (Nat.le_of_lt f)));have I:=zH (C.o.trans m);clear E m d a C s;go_wp2_with fail;exact⟨⟨k+1,by omega,by go_num,P,N,I⟩,by simp[intOf];omega⟩
  ·obtain rfl:k=4:=by omega
   clear hkn;have W:zI (bs (confL e++memL 4)=confT e):=zH rfl;go_wp2_with fail;refine(hD6 b _ _ wr d.o).mono ?_;rintro r w7 ⟨rfl,rfl⟩;rw[W.o];go_wp2_with fail;go_ret2;exact⟨rfl,a.o⟩
theorem hV1 (e:Nat) (he:e≤60) (A:Option Addr) (c:Nat) (t:ByteArray) (bys:List Nat) (E:Qu bys) (B:Option Addr) (n d:Nat) (o:Tags) (w:World) (Q:Mem w A c) (G:SlD encS w o B n d (sgl bys t)) :
  Calls Tryz.prog 207 #[.agg #[.int .i64 e,.slice A 4 c],.string t,.slice B n d] w fun r w'=>r=.returned (.bool true)∧Below w.heap.size w w':=by
 have f:Below w.heap.size w (w.alloc (.cells #[.int .i64 e,.slice A 4 c] 31)):=(Below.refl _ _).alloc (Nat.le_refl _) _;have L:=zH (heap_alloc_new w (.cells #[.int .i64 e,.slice A 4 c] 31));have y:=zH f;have HM:=zH Q;have Z:w.heap.size<(w.alloc (.cells #[.int .i64 e,.slice A 4 c] 31)).heap.size:=by simp
 have P:=zH (right4 e he A c _ (Q.keep f));have HQ:=fun w=>zH (quorum4 w);have hn:n=bys.length:=by rw[←G.1];simp[sgl]
 have n3:(3:Int)≤(n:Int):=by have:=E.three;omega
 have n4:(n:Int)≤4:=by have:=E.four;omega
 have hd:d≤9223372036854775807:=G.2.2.1;obtain⟨b,off,rfl,X,_,g⟩:=G.at 2 hBf (0,ByteArray.empty) (by omega);have HC:zI (∀ i,i<n→w.cell? ⟨b,off+i*2,none⟩=some (.int .i64 ((bys.getD i 0:Nat):Int))∧w.cell? ⟨b,off+i*2+1,none⟩=some (.string t)):=zH (fun i hi=>by
  have h0:=g i 0 (.int .i64 ((bys.getD i 0:Nat):Int)) hi (by omega) (by rw[hNs bys t i (by omega)];rfl);have h1:=g i 1 (.string t) hi (by omega) (by rw[hNs bys t i (by omega)];rfl);exact⟨h0,h1⟩)
 have O:=fun x w (h:Mem w A c)=>zH (has4 x e A c w h);have T:zI (∀ i,i<n→bys.getD i 0<4):=zH (fun i hi=>E.lt i (by omega));have U:zI (∀ i,i+1<n→bys.getD i 0<bys.getD (i+1) 0):=zH (fun i hi=>E.up i (by omega));clear f Q G g E hn;go_enter Tryz.func207,Tryz.ntmps207;go_wp2_with fail;generalize w.alloc (.cells #[.int .i64 e,.slice A 4 c] 31)=w0 at y L Z P ⊢;refine P.o.mono ?_;rintro r w1 ⟨rfl,u⟩;have M:=zH ((u.block _ Z).trans L.o);have R:=zH (zB y.o u);have Ha:w.heap.size<w1.heap.size:=by have:=u.size;omega
 have c0:=zR w1 w.heap.size 0 _ _ _ M.o;have c1:=zR w1 w.heap.size 1 _ _ _ M.o;simp at c0 c1;clear u L y P;go_wp2_with fail;refine(HQ w1).o.mono ?_;rintro r wx ⟨rfl,rfl⟩;clear c0 c1;go_wp2_with fail;go_loopw [7,9,29] (fun la _ j wr=>∃ k:Nat,k≤n∧j=.int .i64 k∧(∃ z:Int,la=.int .i64 z∧zI (∀ i,k=i+1→z=((bys.getD i 0:Nat):Int))∧zI (k=0→z = -1))∧zI (Below w.heap.size w wr)∧zI (wr.heap[w.heap.size]?=some (.cells #[.int .i64 e,.slice A 4 c] 31 (0,0)))) (fun _ _ j _=>n - (intOf j).toNat)
 case atStart=>exact⟨0,by omega,rfl,⟨-1,rfl,zH (fun i h=>by omega),zH (fun _=>rfl)⟩,R,M⟩
 case round=>
  obtain⟨k,hk,rfl,⟨z,rfl,F,K⟩,l,m⟩:=hrel;by_cases hkn:k<n
  ·have n0:(0:Int)≤(k:Int):=by omega
   have n1:(k:Int)<(n:Int):=by omega
   obtain⟨H,I⟩:=HC.o k hkn;have d0:=(l.o.cell (p:=⟨b,off+k*2,none⟩) X).trans H;have d1:=(l.o.cell (p:=⟨b,off+k*2+1,none⟩) X).trans I;have Y:=T.o k hkn;have Hb:z<((bys.getD k 0:Nat):Int):=by
    cases k with
    |zero=>have:=K.o rfl;omega
    |succ i=>have:=F.o i rfl;have:=U.o i hkn;omega
   have W:zI (∀ i,k+1=i+1→((bys.getD k 0:Nat):Int)=((bys.getD i 0:Nat):Int)):=zH (fun i h=>by rw[show i=k by omega]);generalize bys.getD k 0=x at d0 Y Hb W;have f:Below w.heap.size w (wr.alloc (.cells #[.int .i64 x,.string t] 114)):=l.o.trans ((Below.refl _ _).alloc l.o.size _);have a:=(heap_alloc_old wr (.cells #[.int .i64 x,.string t] 114) (Nat.lt_of_lt_of_le Ha (Nat.le_of_eq rfl) |> fun _=>(zL m.o))).trans m.o;have c0:=zR _ w.heap.size 0 _ _ _ a;have c1:=zR _ w.heap.size 1 _ _ _ a;simp only[Array.getElem?_toList,List.getElem?_toArray,List.getElem?_cons_zero,List.getElem?_cons_succ] at c0 c1;have N:=zH f;have C:=zH a;have s:=O (x:Int) _ (HM.o.keep f);rw[decide_eq_true (show 0≤(x:Int)∧(x:Int)<4 by omega)] at s;have Hl:¬ (x:Int)≤z:=by omega
   have Hm:w.heap.size<wr.heap.size:=(zL m.o);clear f a H I F K l m hkn;go_wp2_with fail;have q:=heap_alloc_new wr (.cells #[.int .i64 x,.string t] 114);have D:wr.heap.size<(wr.alloc (.cells #[.int .i64 x,.string t] 114)).heap.size:=by simp
   generalize wr.alloc (.cells #[.int .i64 x,.string t] 114)=w3 at s N C q D ⊢;refine s.o.mono ?_;rintro r w4 ⟨rfl,v⟩;have S:=zH (zB N.o v);have V:=zH ((v.block _ (by omega)).trans C.o);have J:=(v.block _ D).trans q;have e0:=zR w4 wr.heap.size 0 _ _ _ J;simp at e0;clear v q D J N C s d0 d1;go_wp2_with fail;exact⟨⟨k+1,by omega,by go_num,⟨(x:Int),rfl,W,zH (fun h=>by omega)⟩,S,V⟩,by simp[intOf];omega⟩
  ·obtain rfl:k=n:=by omega
   clear hkn;go_wp2_with fail;go_ret;exact⟨rfl,l.o⟩
theorem hP2 (e:Nat) (H:e≤59) (A:Option Addr) (c:Nat) (A':Option Addr) (c':Nat) (bys:List Nat) (F:Qu bys) (B:Option Addr) (n d:Nat) (o:Tags) (w:World) (E:Mem w A c) (p:Mem w A' c') (k:SlD encS w o B n d (sgl bys (confT (e+1)))) :
  Calls Tryz.prog 204 #[.agg #[.int .i64 e,.slice A 4 c],.agg #[.int .i64 ((e+1:Nat):Int),.slice A' 4 c',.slice B n d]] w fun r w'=>r=.returned (.int .i64 0)∧Below w.heap.size w w':=by
 have j:Below w.heap.size w (w.alloc (.cells #[.int .i64 e,.slice A 4 c] 31)):=(Below.refl _ _).alloc (Nat.le_refl _) _;have l:=zH ((heap_alloc_old (w.alloc (.cells #[.int .i64 e,.slice A 4 c] 31)) (.cells #[.int .i64 ((e+1:Nat):Int),.slice A' 4 c',.slice B n d] 120) (show w.heap.size<_ by simp)).trans (heap_alloc_new w _));have f:=heap_alloc_new (w.alloc (.cells #[.int .i64 e,.slice A 4 c] 31)) (.cells #[.int .i64 ((e+1:Nat):Int),.slice A' 4 c',.slice B n d] 120);rw[show(w.alloc (.cells #[.int .i64 e,.slice A 4 c] 31)).heap.size=w.heap.size+1 by simp] at f;have f:=zH f;have b:=zH (j.alloc (by simp) (.cells #[.int .i64 ((e+1:Nat):Int),.slice A' 4 c',.slice B n d] 120));have t:w.heap.size+1<((w.alloc (.cells #[.int .i64 e,.slice A 4 c] 31)).alloc (.cells #[.int .i64 ((e+1:Nat):Int),.slice A' 4 c',.slice B n d] 120)).heap.size:=by simp
 obtain⟨e1,m⟩:=zN (e+1);rw[←m] at l f b t k ⊢;have q1:(e1:Int) - 1=(e:Int):=by omega
 have s:e1≤60:=by omega
 have le1:(1:Int)≤(e1:Int):=by omega
 have v:=zH E;have x:=zH p;have D:=zH k;have q:=fun w (h:Mem w A' c')=>zH (hF5 e1 s A' c' w h);have C:=fun w (h:Mem w A c)=>zH (right4 e (by omega) A c w h);have y:=fun w (h:Mem w A c) (k:SlD encS w o B n d (sgl bys (confT e1)))=>zH (hV1 e (by omega) A c (confT e1) bys F B n d o w h k);generalize confT e1=tx at q y D;have z:=zH q1;clear j E p k q1 m F;go_enter Tryz.func204,Tryz.ntmps204;go_wp2_with fail;generalize (w.alloc (.cells #[.int .i64 e,.slice A 4 c] 31)).alloc (.cells #[.int .i64 e1,.slice A' 4 c',.slice B n d] 120)=w0 at b l f t ⊢;refine(q w0 (x.o.keep b.o)).o.mono ?_;rintro r w1 ⟨rfl,a⟩;have K0:=zH ((a.block _ (by omega)).trans l.o);have K1:=zH ((a.block _ t).trans f.o);have g:=zH (zB b.o a);have G:w.heap.size+1<w1.heap.size:=by have:=a.size;omega
 clear a l f b q;have c0:=zR w1 w.heap.size 0 _ _ _ K0.o;have c1:=zR w1 w.heap.size 1 _ _ _ K0.o;simp at c0 c1;go_wp2_with fail;refine(C w1 (v.o.keep g.o)).o.mono ?_;rintro r w2 ⟨rfl,a⟩;have L0:=zH ((a.block _ (by omega)).trans K0.o);have L1:=zH ((a.block _ G).trans K1.o);have i:=zH (zB g.o a);clear a K0 K1 g C c0 c1;have c0:=zR w2 w.heap.size 0 _ _ _ L0.o;have c1:=zR w2 w.heap.size 1 _ _ _ L0.o;have d0:=zR w2 (w.heap.size+1) 0 _ _ _ L1.o;have d2:=zR w2 (w.heap.size+1) 2 _ _ _ L1.o;simp at c0 c1 d0 d2;have q1:=z.o;have q2:(((e1:Int) - 1) == (e:Int))=true:=by rw[q1];simp
 go_wp2_with fail;refine(y w2 (v.o.keep i.o) (D.o.fix (Fix.same (P:=fun _=>True) i.o) trivial)).o.mono ?_;rintro r w3 ⟨rfl,a⟩;have u:=zH (zB i.o a);clear a;go_wp2_with fail;go_ret;exact⟨rfl,u.o⟩
def MemN (w:World) (base:Nat) (A:Option Addr) (c:Nat):Prop:=Mem w A c∧∀ ad,A=some ad→base≤ad.block
theorem MemN.data {w:World} {base:Nat} {A:Option Addr} {c:Nat} (h:MemN w base A c) (o:Tags) (a:∀ b,base≤b→o b=0):MemD w o A c:=⟨h.1,fun ad e=>a _ (h.2 ad e)⟩
theorem MemN.keep {w w':World} {base:Nat} {A:Option Addr} {c:Nat} (h:MemN w base A c) (a:Below w.heap.size w w'):MemN w' base A c:=⟨h.1.keep a,h.2⟩
theorem clone4 (A:Option Addr) (c:Nat) (w:World) (h:Mem w A c):Calls Tryz.prog 43 #[.slice A 4 c] w fun e w'=>∃ A' c',e=.returned (.slice A' 4 c')∧MemN w' w.heap.size A' c'∧Below w.heap.size w w':=by
 obtain⟨u,x,b,off,rfl,y,o⟩:=h;refine(Tryz.slices_Clone_int b off 4 c [0,1,2,3] w (by decide) (by decide) (fun j q=>?_)).mono ?_
 ·have m:j<4:=by simpa using q
  rw[o j m];obtain rfl | rfl | rfl | rfl:j=0∨j=1∨j=2∨j=3:=by omega
  all_goals rfl
 ·rintro e w' ⟨v,rfl,a,t,p⟩;rcases a.2 with⟨_,n⟩ | ⟨g,cap,cur,rfl,d,f,i,l,r,s⟩
  ·cases n
  ·refine⟨_,_,rfl,⟨⟨i,l,g,0,rfl,(zL f),fun k z=>?_⟩,fun ad e=>by cases e;exact d⟩,p⟩;have:=World.ownsRow.cells a (g:=g) rfl k (.int .i64 k) (by
    obtain rfl | rfl | rfl | rfl:k=0∨k=1∨k=2∨k=3:=by omega
    all_goals rfl)
   rw[hAl] at this;exact this
theorem hAz (w:World) (g:Nat) (T:TypeId) (o0 o1 v0 v1:Value) (h:w.heap[g]?=some (.cells #[o0,o1] T (0,0))) :
  ((w.setCell ⟨g,0,none⟩ v0).setCell ⟨g,1,none⟩ v1).heap[g]?=some (.cells #[v0,v1] T (0,0)) ∧
  w.grownBy ((w.setCell ⟨g,0,none⟩ v0).setCell ⟨g,1,none⟩ v1) (some g):=by
 refine⟨?_,hAb (hAb (hAa (Below.refl _ _) _) (p:=⟨g,0,none⟩) (.inl rfl) _) (p:=⟨g,1,none⟩) (.inl rfl) _⟩;exact(heap_setCell_same _ g 1 _ _ _ (heap_setCell_same w g 0 _ _ _ h)).trans (by rfl)
theorem hLn (e:Nat) (A:Option Addr) (c:Nat) (w:World) (h:Mem w A c):Calls Tryz.prog 70 #[.agg #[.int .i64 e,.slice A 4 c]] w fun r w'=>∃ A' c',r=.returned (.agg #[.int .i64 e,.slice A' 4 c'])∧MemN w' w.heap.size A' c'∧Below w.heap.size w w':=by
 have m:Below w.heap.size w (w.alloc (.cells #[.int .i64 e,.slice A 4 c] 31)):=(Below.refl _ _).alloc (Nat.le_refl _) _;have l:=zH (m.alloc (by simp) (.cells #[.int .i64 0,.slice none 0 0] 31));have z:=zH ((heap_alloc_old (w.alloc (.cells #[.int .i64 e,.slice A 4 c] 31)) (.cells #[.int .i64 0,.slice none 0 0] 31) (show w.heap.size<_ by simp)).trans (heap_alloc_new w _));have j:=heap_alloc_new (w.alloc (.cells #[.int .i64 e,.slice A 4 c] 31)) (.cells #[.int .i64 0,.slice none 0 0] 31);rw[show(w.alloc (.cells #[.int .i64 e,.slice A 4 c] 31)).heap.size=w.heap.size+1 by simp] at j;have j:=zH j;have E:w.heap.size+1<((w.alloc (.cells #[.int .i64 e,.slice A 4 c] 31)).alloc (.cells #[.int .i64 0,.slice none 0 0] 31)).heap.size:=by simp
 have G:=zH h;clear m h;go_enter Tryz.func70,Tryz.ntmps70;go_wp2_with fail;generalize (w.alloc (.cells #[.int .i64 e,.slice A 4 c] 31)).alloc (.cells #[.int .i64 0,.slice none 0 0] 31)=w0 at l z j E ⊢;have c0:=zR w0 w.heap.size 0 _ _ _ z.o;have c1:=zR w0 w.heap.size 1 _ _ _ z.o;simp at c0 c1;have v:Below w0.heap.size w0 w0.drew:=⟨rfl,rfl,rfl,Nat.le_refl _,fun _ _=>rfl⟩;have F:=zH (clone4 A c w0.drew (G.o.keep (zB l.o v)));clear v;go_region_law ((go_simp;go_at_call 43;refine F.o.mono ?_;rintro r w1 ⟨A',c',rfl,D,g⟩;have d:Below w0.heap.size w0 w1:=⟨g.os,g.tape,g.output,g.size,g.block⟩;have e0:=(d.cell (p:=⟨w.heap.size,0,none⟩) (by simp;omega)).trans c0;have e1:=(d.cell (p:=⟨w.heap.size,1,none⟩) (by simp;omega)).trans c1;have a:=(d.block _ E).trans j.o;have d0:=zR w1 (w.heap.size+1) 0 _ _ _ a;have d1:=zR w1 (w.heap.size+1) 1 _ _ _ a;have f0:=frozen_of_row w1 (w.heap.size+1) 0 _ _ a;have f1:=frozen_of_row w1 (w.heap.size+1) 1 _ _ a;simp at d0 d1))
 all_goals
  have n:Below w.heap.size w w1:=zB l.o d;obtain⟨y,f⟩:=hAz w1 (w.heap.size+1) _ _ _ (.int .i64 e) (.slice A' 4 c') a;have C:w1.heap.size≤((w1.setCell ⟨w.heap.size+1,0,none⟩ (.int .i64 e)).setCell ⟨w.heap.size+1,1,none⟩ (.slice A' 4 c')).heap.size:=f.size;have x:MemN ((w1.setCell ⟨w.heap.size+1,0,none⟩ (.int .i64 e)).setCell ⟨w.heap.size+1,1,none⟩ (.slice A' 4 c')) w.heap.size A' c':=by
   obtain⟨⟨g1,g2,b,off,g3,g4,g5⟩,g6⟩:=D;have B:=g6 _ g3;have H:w0.drew.heap.size=w0.heap.size:=rfl;simp only at B;refine⟨⟨g1,g2,b,off,g3,by omega,fun k i=>?_⟩,fun ad ea=>by have:=g6 ad ea;omega⟩;have i:=g5 k i;unfold World.cell? at i ⊢;rw[f.block b g4 (fun h=>by have:=Option.some.inj h;omega)];exact i
  have u:=n.grown f n.size (fun kk i=>by have h:=Option.some.inj i;omega);have t:=zH y;have s:=zH x;have q:=zH u;clear y f x u n D g d e0 e1 a d0 d1 f0 f1 c0 c1 C;generalize (w1.setCell ⟨w.heap.size+1,0,none⟩ (.int .i64 e)).setCell ⟨w.heap.size+1,1,none⟩ (.slice A' 4 c')=w2 at t s q ⊢;go_wp2_with fail;refine bodyPost_ret (results_cell_row rfl _ _ (w.heap.size+1) _ _ _ _ (by rfl) t.o Tryz.underlying31 rfl (by kernel_rfl)) rfl ?_;exact⟨A',c',rfl,s.o,q.o⟩
def Row (w:World) (o:Tags) (i:Nat) (T:TypeId) (k:Nat) (v:Value) (n:Nat) (xs:List Value):Prop:=w.ownsRow 0 T k v n xs∧∀ g,v.ownBlock=some g→o g=i
theorem Row.fix {P:Nat→Prop} {o o':Tags} {w w':World} {i:Nat} {T:TypeId} {k:Nat} {v:Value} {n:Nat} {xs:List Value} (h:Row w o i T k v n xs) (f:Fix P o o' w w') (l:P i):Row w' o' i T k v n xs:=by
 obtain⟨⟨c,b⟩,j⟩:=h;rcases b with b | ⟨g,cap,cur,rfl,m,a,rest⟩
 ·refine⟨⟨c,.inl b⟩,fun g a=>?_⟩;rw[b.1] at a;cases a
 ·have e:=j g rfl;obtain⟨t1,t2⟩:=f.block g (zL a) (by rw[e];exact l);exact⟨⟨c,.inr ⟨g,cap,cur,rfl,m,t2.trans a,rest⟩⟩,fun g' d=>by cases d;rw[t1];exact e⟩
theorem Row.lt {w:World} {o:Tags} {i:Nat} {T:TypeId} {k:Nat} {v:Value} {n:Nat} {xs:List Value} (h:Row w o i T k v n xs):∀ g,v.ownBlock=some g→g<w.heap.size:=fun g a=>(World.ownsRow.lt h.1 g a).2
theorem Row.nil (w:World) (o:Tags) (i:Nat) (T:TypeId) (k:Nat):Row w o i T k (.slice none 0 0) 0 []:=⟨World.ownsRow_nil _ _ _ _,fun g h=>by cases h⟩
def Blk (w:World) (o:Tags) (i b:Nat) (T:TypeId) (cs:Array Value):Prop:=w.heap[b]?=some (.cells cs T (0,0))∧o b=i
theorem Blk.lt {w:World} {o:Tags} {i b:Nat} {T:TypeId} {cs:Array Value} (h:Blk w o i b T cs):b<w.heap.size:=(zL h.1)
theorem Blk.fix {P:Nat→Prop} {o o':Tags} {w w':World} {i b:Nat} {T:TypeId} {cs:Array Value} (h:Blk w o i b T cs) (f:Fix P o o' w w') (a:P i):Blk w' o' i b T cs:=by
 obtain⟨t1,t2⟩:=f.block b h.lt (by rw[h.2];exact a);exact⟨t2.trans h.1,by rw[t1];exact h.2⟩
def confCells:Nat→List (Option Addr×Nat)→List Value
 |_,[]=>[]
 |k,x::r=>.int .i64 k::.slice x.1 4 x.2::confCells (k+1) r
def SigsOk (w:World) (o:Tags):Nat→List (List Nat)→List (Option Addr×Nat×Nat)→Prop
 |_,[],[]=>True
 |j,b::r,s::t=>(SlD encS w o s.1 s.2.1 s.2.2 (sgl b (confT (j+1)))∧Qu b)∧SigsOk w o (j+1) r t
 |_,_,_=>False
theorem SigsOk.fix {P:Nat→Prop} {o o':Tags} {w w':World} (f:Fix P o o' w w') (a:P 0):∀ {j:Nat} {ch:List (List Nat)} {ss:List (Option Addr×Nat×Nat)},SigsOk w o j ch ss→SigsOk w' o' j ch ss
 |_,[],[],_=>trivial
 |j,b::r,s::t,h=>⟨⟨h.1.1.fix f a,h.1.2⟩,SigsOk.fix f a h.2⟩
structure TrAt (w:World) (o:Tags) (i T:Nat) (ch:List (List Nat)):Prop where
 ex:∃ CA CC SA SC cs ss,Blk w o i T 176 #[.slice CA (ch.length+1) CC,.slice SA ch.length SC] ∧
  cs.length=ch.length+1∧(∀ x∈cs,MemD w o x.1 x.2)∧Row w o i 31 2 (.slice CA (ch.length+1) CC) (ch.length+1) (confCells 0 cs) ∧
  SigsOk w o 0 ch ss∧Row w o i 44 1 (.slice SA ch.length SC) ch.length (ss.map fun s=>.slice s.1 s.2.1 s.2.2)
theorem TrAt.fix {P:Nat→Prop} {o o':Tags} {w w':World} {i T:Nat} {ch:List (List Nat)} (h:TrAt w o i T ch) (f:Fix P o o' w w') (hi:P i) (a:P 0):TrAt w' o' i T ch:=by
 obtain⟨⟨CA,CC,SA,SC,cs,ss,b,c1,c2,c3,s2,s3⟩⟩:=h;exact⟨⟨CA,CC,SA,SC,cs,ss,b.fix f hi,c1,fun x c=>(c2 x c).fix f a,c3.fix f hi,s2.fix f a,s3.fix f hi⟩⟩
theorem hZh (w:World) (g:Nat) (cur:Array Value) (e:TypeId) (n cap k:Nat) (b:w.heap[g]?=some (.cells cur e (0,0))) (hc:cur.size=cap*k) (a:n≤cap) (c:cap≤maxLen) :
  w.ownsRow 0 e k (.slice (some ⟨g,0,none⟩) n cap) n (cur.toList.take (n*k)):=
 ⟨by rw[List.length_take,Array.length_toList,hc];exact Nat.min_eq_left (Nat.mul_le_mul_right k a),.inr ⟨g,cap,cur,rfl,Nat.zero_le _,b,a,c,hc,rfl⟩⟩
theorem hId (T:Nat) (ch:List (List Nat)) (i:Nat) (o:Tags) (w:World) (h:TrAt w o i T ch):Calls Tryz.prog 143 #[.pointer (some ⟨T,0,none⟩)] w fun e w'=>e=.returned (.int .i64 ch.length)∧w=w':=by
 obtain⟨⟨CA,CC,SA,SC,cs,ss,a,_⟩⟩:=h;have c1:=zR w T 1 _ _ _ a.1;simp at c1;clear a;go_enter Tryz.func143,Tryz.ntmps143;go_wp2_with fail;go_ret;exact⟨rfl,rfl⟩
theorem hUp (i:Nat) (A:Option Addr) (c:Nat) (o:Tags) (w:World) (h:Mem w A c):Calls Tryz.prog 46 #[.agg #[.int .i64 0,.slice A 4 c]] w fun e w'=>∃ T o',e=.returned (.tuple #[.pointer (some ⟨T,0,none⟩),.int .i64 0])∧TrAt w' o' i T []∧Below w.heap.size w w'∧w.heap.size≤T∧(∀ b,b<w.heap.size→o' b=o b):=by
 have l:Below w.heap.size w (w.alloc (.cells #[.int .i64 0,.slice A 4 c] 31)):=(Below.refl _ _).alloc (Nat.le_refl _) _;have n:=zH (heap_alloc_new w (.cells #[.int .i64 0,.slice A 4 c] 31));have d:=zH l;have r:=zH h;have u:w.heap.size<(w.alloc (.cells #[.int .i64 0,.slice A 4 c] 31)).heap.size:=by simp
 have y:=fun w (h:Mem w A c)=>zH (right4 0 (by decide) A c w h);have v:=fun w (h:Mem w A c)=>zH (hLn 0 A c w h);clear l h;go_enter Tryz.func46,Tryz.ntmps46;go_wp2_with fail;generalize w.alloc (.cells #[.int .i64 0,.slice A 4 c] 31)=w0 at d n u ⊢;refine(y w0 (r.o.keep d.o)).o.mono ?_;rintro e w1 ⟨rfl,a⟩;have f:=zH (zB d.o a);have p:=(a.block _ u).trans n.o;have c0:=zR w1 w.heap.size 0 _ _ _ p;have c1:=zR w1 w.heap.size 1 _ _ _ p;simp at c0 c1;clear a p n;go_wp2_with fail;refine(v w1 (r.o.keep f.o)).o.mono ?_;rintro e w2 ⟨A',c',rfl,m,a⟩;have k:=zH (zB f.o a);have j:=zH m;have E:=a.size;clear a m c0 c1;go_wp2_with fail;go_ret2;have s:Below w2.heap.size w2 ((w2.alloc (.cells #[.int .i64 0,.slice A' 4 c'] 31)).alloc (.cells #[.slice (some ⟨w2.heap.size,0,none⟩) 1 1,.slice none 0 0] 176)):=((Below.refl _ _).alloc (Nat.le_refl _) _).alloc (by simp) _;have q:=k.o.size;refine⟨w2.heap.size+1,(o.ext w.heap.size 0).ext w2.heap.size i,rfl,⟨⟨some ⟨w2.heap.size,0,none⟩,1,none,0,[(A',c')],[],⟨?_,Tags.ext_new _ _ _ _ (by omega)⟩,rfl,fun x C=>?_,⟨?_,?_⟩,trivial,Row.nil _ _ _ _ _⟩⟩,k.o.trans (s.mono q),by omega,fun b a=>?_⟩
 ·have:=heap_alloc_new (w2.alloc (.cells #[.int .i64 0,.slice A' 4 c'] 31)) (.cells #[.slice (some ⟨w2.heap.size,0,none⟩) 1 1,.slice none 0 0] 176);rw[show(w2.alloc (.cells #[.int .i64 0,.slice A' 4 c'] 31)).heap.size=w2.heap.size+1 by simp] at this;exact this
 ·obtain rfl:x=(A',c'):=by simpa using C
  have z:MemD w2 ((o.ext w.heap.size 0).ext w2.heap.size i) A' c':=by
   refine⟨j.o.1,fun ad e=>?_⟩;have t:ad.block<w2.heap.size:=by
    obtain⟨_,_,b,off,e1,e2,_⟩:=j.o.1;rw[e1] at e;cases e;exact e2
   have D:=j.o.2 ad e;rw[Tags.ext_old _ _ _ _ t,Tags.ext_new _ _ _ _ (by have:=f.o.size;omega)]
  exact z.fix (Fix.same (P:=fun _=>True) s) trivial
 ·exact hZh _ w2.heap.size #[.int .i64 0,.slice A' 4 c'] _ 1 1 2 ((heap_alloc_old _ _ (by simp)).trans (heap_alloc_new w2 _)) rfl (Nat.le_refl _) (by decide)
 ·intro g B;cases B;exact Tags.ext_new _ _ _ _ (Nat.le_refl _)
 ·rw[Tags.ext_old _ _ _ _ (by omega),Tags.ext_old _ _ _ _ a]
theorem hBy:∀ (cs:List (Option Addr×Nat)) (k j:Nat),j<cs.length→(confCells k cs)[j*2]?=some (.int .i64 ((k+j:Nat):Int))∧(confCells k cs)[j*2+1]?=some (.slice (cs.getD j (none,0)).1 4 (cs.getD j (none,0)).2)
 |[],k,j,h=>by simp at h
 |x::r,k,0,_=>⟨rfl,rfl⟩
 |x::r,k,j+1,h=>by
  have ih:=hBy r (k+1) j (by simpa using h);rw[show(j+1)*2=j*2+2 by omega,show k+(j+1)=k+1+j by omega];exact ih
theorem MemN.grown {w w':World} {base b:Nat} {A:Option Addr} {c:Nat} (h:MemN w base A c) (e:w.grownBy w' (some b)) (f:b<base):MemN w' base A c:=by
 obtain⟨⟨g1,g2,g,off,g3,g4,g5⟩,g6⟩:=h;have d:=g6 _ g3;simp only at d;refine⟨⟨g1,g2,g,off,g3,Nat.lt_of_lt_of_le g4 e.size,fun k a=>?_⟩,g6⟩;have a:=g5 k a;unfold World.cell? at a ⊢;rw[e.block g g4 (fun h=>by have:=Option.some.inj h;omega)];exact a
theorem MemN.lower {w:World} {base b:Nat} {A:Option Addr} {c:Nat} (h:MemN w base A c) (a:b≤base):MemN w b A c:=⟨h.1,fun ad e=>Nat.le_trans a (h.2 ad e)⟩
theorem hLh {fn:Func} {p q:Tmp} (h:fn.results=#[.cell p 31,.tmp q]) (tmps:Array Value) (w:World) (g:Nat) (cs:Array Value) (e:cs.size=2)
  (d:tmps.getD p undef=.pointer (some ⟨g,0,none⟩)) (b:w.heap[g]?=some (.cells cs 31 (0,0))) :
  (results fn tmps).run Tryz.prog w=.ok (.tuple #[.agg cs,tmps.getD q undef]) w:=by
 have a:tmps[p]?.getD undef=.pointer (some ⟨g,0,none⟩):=by simpa using d
 have c:=run_loadVar_row (P:=Tryz.prog) w g 31 31 cs (0,0) _ b Tryz.underlying31 rfl (by rw[e];kernel_rfl);simp[results,h,a,asAddr,c]
theorem hWu (T:Nat) (ch:List (List Nat)) (k:Nat) (l:k≤ch.length) (hc:ch.length≤50) (i:Nat) (o:Tags) (w:World) (h:TrAt w o i T ch):Calls Tryz.prog 142 #[.pointer (some ⟨T,0,none⟩),.int .i64 k] w fun e w'=>(∃ A c,e=.returned (.tuple #[.agg #[.int .i64 k,.slice A 4 c],.bool true])∧MemN w' w.heap.size A c)∧Below w.heap.size w w':=by
 obtain⟨⟨CA,CC,SA,SC,cs,ss,v,c1,c2,c3,_⟩⟩:=h;obtain⟨⟨XA,XC⟩,y⟩:∃ x,x=cs.getD k (none,0):=⟨_,rfl⟩;have f:(XA,XC)∈cs:=by
  rw[y,List.getD_eq_getElem?_getD,List.getElem?_eq_getElem (by omega)];exact List.getElem_mem _
 have D:=(c2 (XA,XC) f).1;obtain⟨g0,g1⟩:=hBy cs 0 k (by omega);rw[←y] at g1;rw[Nat.zero_add] at g0;rcases c3.1.2 with⟨_,L⟩ | ⟨g,cap,cur,H,_,C,G,B,_⟩
 ·omega
 ·injection H with e1 _ e3;subst e1;subst e3;have k0:=World.ownsRow.cells c3.1 (g:=g) rfl (k*2) _ g0;have k1:=World.ownsRow.cells c3.1 (g:=g) rfl (k*2+1) _ g1;rw[hAl] at k0 k1;have J:=(zL C);have cc0:=zR w T 0 _ _ _ v.1;simp at cc0 k0 k1;have n0:(k:Int)<((ch.length:Int)+1):=by omega
  have n1:(0:Int)≤(k:Int):=by omega
  have n2:(ch.length:Int)≤50:=by omega
  unfold maxLen at B;have E:=zH D;have s:Below w.heap.size w (w.alloc (.cells #[.int .i64 0,.slice none 0 0] 31)):=(Below.refl _ _).alloc (Nat.le_refl _) _;have b:=zH s;have F:=fun w (h:Mem w XA XC)=>zH (hLn k XA XC w h);have z:=zH (heap_alloc_new w (.cells #[.int .i64 0,.slice none 0 0] 31));have m:w.heap.size<(w.alloc (.cells #[.int .i64 0,.slice none 0 0] 31)).heap.size:=by simp
  have I:=v.lt;have K:=zH l;clear s v c1 c2 c3 C D y f g0 g1 l;go_enter Tryz.func142,Tryz.ntmps142;go_wp2_with fail;generalize w.alloc (.cells #[.int .i64 0,.slice none 0 0] 31)=w0 at b z m ⊢;refine(F w0 (E.o.keep b.o)).o.mono ?_;rintro e w1 ⟨A',c',rfl,t,d⟩;have a:=(d.block _ m).trans z.o;have d0:=zR w1 w.heap.size 0 _ _ _ a;have d1:=zR w1 w.heap.size 1 _ _ _ a;have f0:=frozen_of_row w1 w.heap.size 0 _ _ a;have f1:=frozen_of_row w1 w.heap.size 1 _ _ a;simp at d0 d1;have n:=zH (zB b.o d);obtain⟨u,j⟩:=hAz w1 w.heap.size _ _ _ (.int .i64 k) (.slice A' 4 c') a;have r:=zH u;have q:=zH ((t.grown j m).lower (Nat.le_of_lt m));have p:=zH (n.o.grown j n.o.size (fun kk l=>by have h:=Option.some.inj l;omega));clear d t a cc0 k0 k1 u j;go_wp2_with fail;generalize (w1.setCell ⟨w.heap.size,0,none⟩ (.int .i64 k)).setCell ⟨w.heap.size,1,none⟩ (.slice A' 4 c')=w2 at r q p ⊢;refine bodyPost_ret (hLh rfl _ _ w.heap.size _ rfl (by rfl) r.o) rfl ?_;exact⟨⟨A',c',rfl,q.o⟩,p.o⟩
theorem hMc:(Tryz.prog.info? 114).map (fun i=>(i.zero,i.size,i.bytes))=some (some (.agg #[.int .i64 0,.string ⟨#[]⟩]),2,24):=by kernel_rfl
theorem hVa (l:List St):∀ u∈l.flatMap encS,u.oneCell'=true:=by
 intro u b;simp only[List.mem_flatMap,encS] at b;obtain⟨s,_,a⟩:=b;simp at a;rcases a with rfl | rfl<;>rfl
theorem hL3 {α:Type} (enc:α→List Value) (k:Nat) (a:∀ x,(enc x).length=k):∀ l:List α,(l.flatMap enc).length=l.length*k
 |[]=>by simp
 |x::r=>by rw[List.flatMap_cons,List.length_append,a,hL3 enc k a r,List.length_cons,Nat.succ_mul,Nat.add_comm]
theorem hIn (B:Option Addr) (n d:Nat) (l:List St) (o:Tags) (w:World) (L:0<n) (M:n≤1000) (h:SlD encS w o B n d l):Calls Tryz.prog 206 #[.slice B n d] w fun e w'=>∃ A c,e=.returned (.slice A n c)∧w'.ownsRow w.heap.size 114 2 (.slice A n c) n (l.flatMap encS)∧Below w.heap.size w w':=by
 obtain⟨i0,m,r,s,t⟩:=info_parts hMc;have D:=zH m;have E:=zH r;have F:=zH s;have G:=zH t;clear m r s t;obtain⟨s1,s2,s3,s4,s5⟩:=h;cases B with
 |none=>have:=(s4 rfl).1;omega
 |some ad=>
  obtain⟨b,off,rfl,I,_,hc⟩:=s5 ad rfl;have i:(l.flatMap encS).length=n*2:=by rw[hL3 encS 2 hBf,s1]
  have y:=zH i;have f:Below w.heap.size w (w.alloc (.cells #[] 114)):=(Below.refl _ _).alloc (Nat.le_refl _) _;have H:zI (∀ j u,(l.flatMap encS)[j]?=some u→(w.alloc (.cells #[] 114)).cell? ((⟨b,off,none⟩:Addr).add j)=some u):=zH (fun j u J=>by rw[hAl];exact(f.cell (p:=⟨b,off+j,none⟩) I).trans (hc j u J));have v:(w.alloc (.cells #[] 114)).ownsRow w.heap.size 114 2 (.slice (some ⟨w.heap.size,0,none⟩) 0 0) 0 []:=⟨rfl,.inr ⟨w.heap.size,0,#[],rfl,Nat.le_refl _,heap_alloc_new w _,Nat.le_refl _,Nat.zero_le _,rfl,rfl⟩⟩;have x:=zH f;have q:=f.size;clear s1 s2 s3 s4 s5 hc f i;have qT:=fun(w:World)=>Lib.run_eql_slice_nil (P:=Tryz.prog) w 44 114 (some ⟨b,off,none⟩) n d 0 0 Tryz.underlying44;go_enter Tryz.func206,Tryz.ntmps206;go_wp2_with (at_builtin;go_must (refine wpList_append_own _ rfl (.tmp 5) (.tmp 6) 44 rfl w.heap.size 114 i0 _ 2 24 Tryz.underlying44 D.o E.o F.o G.o (by rfl) (by decide) _ _ _ (by rfl) v ⟨b,off,none⟩ n d (l.flatMap encS) (by rfl) y.o H.o (hVa l) (by unfold maxLen;omega) (by omega) q ?_);go_must (intro v2 w2 a g _);obtain⟨VA2,VC2,rfl⟩:=hAk a;have C:=zH a;have z:=zH g;clear a g);go_ret;refine⟨VA2,VC2,?_,?_,x.o.grown z.o q (fun k K=>by cases K;exact Nat.le_refl _)⟩
  ·simp
  ·have:=C.o;simpa using this
theorem hCi {w:World} {base:Nat} {e:TypeId} {size:Nat} {v:Value} {n:Nat} {xs:List Value} (h:w.ownsRow base e size v n xs):w.ownsRow 0 e size v n xs:=by
 refine⟨h.1,?_⟩;rcases h.2 with a | ⟨g,cap,cur,a,_,b⟩
 ·exact .inl a
 ·exact .inr ⟨g,cap,cur,a,Nat.zero_le _,b⟩
theorem hL6 {w w':World} (h:w.grownBy w' none) (row:Option Nat):w.grownBy w' row:=⟨h.os,h.tape,h.output,h.size,fun b a _=>h.block b a (fun e=>by cases e)⟩
structure AppOut (w:World) (o:Tags) (i:Nat) (T:TypeId) (k:Nat) (v v':Value) (w':World) (n:Nat) (xs:List Value):Prop where
 row:Row w' (o.ext w.heap.size i) i T k v' n xs
 grown:w.grownBy w' v.ownBlock
 chg:Chg i o (o.ext w.heap.size i) w w'
theorem hE3 {P:Program} {w:World} (o:Tags) (nd:Nat) (t ty e:TypeId) (i:TypeInfo) (z:Value) (size bytes:Nat) (F:P.underlying t=some (.slice e)) (hi:P.info? e=some i) (I:i.zero=some z)
  (p:i.size=size) (B:i.bytes=bytes) (D:z.cells.size=size) (C:0<size)
  (v:Value) (n:Nat) (xs:List Value) (d:Row w o nd e size v n xs)
  (a:Addr) (m c:Nat) (news:List Value) (E:news.length=m*size) (l:∀ j u,news[j]?=some u→w.cell? (a.add j)=some u) (G:∀ u∈news,u.oneCell'=true)
  (A:n+m≤maxLen) (q:(n+m)*bytes≤140737488355328) :
  ∃ v' w',(Builtin.append_ #[t,t] ty #[v,.slice (some a) m c]).run P w=.ok v' w'∧AppOut w o nd e size v v' w' (n+m) (xs++news):=by
 have key:∃ v' w',(Builtin.append_ #[t,t] ty #[v,.slice (some a) m c]).run P w=.ok v' w'∧w'.ownsRow 0 e size v' (n+m) (xs++news)∧w.grownBy w' v.ownBlock∧∀ g,v'.ownBlock=some g→v.ownBlock=some g∨w.heap.size≤g:=by
  rcases d.1.2 with⟨rfl,rfl⟩ | ⟨g,cap,cur,rfl,x,y,O,N,L,M⟩
  ·have K:xs=[]:=List.eq_nil_of_length_eq_zero (by rw[d.1.1,Nat.zero_mul]);subst K;obtain⟨v',w',r,k,f,_⟩:=run_append_own (P:=P) (w:=w) w.heap.size t ty e i z size bytes F hi I p B D C (.slice none 0 0) 0 [] (World.ownsRow_nil _ _ _ _) a m c news E l G A q (Nat.le_refl _);exact⟨v',w',r,hCi k,f,fun g y=>.inr (World.ownsRow.lt k g y).1⟩
  ·by_cases hroom:n+m≤cap
   ·obtain⟨w',r,k,f⟩:=run_append_fits (P:=P) (w:=w) 0 t ty e i size F hi p g n cap xs d.1 a m c news E l G hroom;exact⟨_,w',r,k,f,fun g' s=>.inl s⟩
   ·obtain⟨v',w',r,k,f⟩:=run_append_arg_grows (P:=P) (w:=w) t ty e i z size bytes F hi I p B D C ⟨g,0,none⟩ n cap xs d.1.1 (World.ownsRow.cells d.1 rfl) a m c news E l (by omega) A q;exact⟨v',w',r,hCi k,hL6 f _,fun g' s=>.inr (World.ownsRow.lt k g' s).1⟩
 obtain⟨v',w',r,k,f,J⟩:=key;refine⟨v',w',r,⟨k,fun g y=>?_⟩,f,?_⟩
 ·rcases J g y with h | h
  ·rw[Tags.ext_old _ _ _ _ (d.lt g h)];exact d.2 g h
  ·exact Tags.ext_new _ _ _ _ h
 ·exact⟨f.os,f.tape,f.output,f.size,fun b x=>Tags.ext_old _ _ _ _ x,fun b x H=>f.block b x (fun e=>H (d.2 b e.symm))⟩
theorem hBq {P:Program} {ops:Array Oper} {op:Oper} {a:Act} {w:World} {K:Act→World→Prop} {Q:Exit→Act→World→Prop} {E:Prop} (q:op.guard=none) (s x:Operand) (t:TypeId)
  (C:op.op=.call { callee:=.builtin .append,args:=#[s,x],argTypes:=#[t,t] })
  (o:Tags) (nd:Nat) (e:TypeId) (i:TypeInfo) (z:Value) (size bytes:Nat) (G:P.underlying t=some (.slice e)) (hi:P.info? e=some i) (J:i.zero=some z)
  (f:i.size=size) (p:i.bytes=bytes) (y:z.cells.size=size) (r:0<size)
  (v:Value) (n:Nat) (xs:List Value) (F:a.eval s=v) (k:Row w o nd e size v n xs)
  (ad:Addr) (m c:Nat) (news:List Value) (I:a.eval x=.slice (some ad) m c) (B:news.length=m*size) (d:∀ j u,news[j]?=some u→w.cell? (ad.add j)=some u) (A:∀ u∈news,u.oneCell'=true)
  (l:n+m≤maxLen) (b:(n+m)*bytes≤140737488355328)
  (h:∀ v' w',AppOut w o nd e size v v' w' (n+m) (xs++news)→K (a.put op.dst v') w') :
  if Region.wanted op (yielded ops a.tmps)=true then Oper.wp P op a w K Q else E:=by
 have H:Region.wanted op (yielded ops a.tmps)=true:=by simp[Region.wanted,q]
 rw[if_pos H];obtain⟨v',w',D,g⟩:=hE3 (P:=P) (w:=w) o nd t op.type e i z size bytes G hi J f p y r v n xs k ad m c news B d A l b;unfold Oper.wp execOp;simp only[C,resolve,invoke,builtin,Sem.run_bind,Sem.run_pure,Result.andThen_ok,List.map_toArray,List.map_cons,List.map_nil,F,I,D];exact h _ _ g
theorem hA9 {P:Program} {ops:Array Oper} {rest:List Oper} {op:Oper} {a:Act} {w:World} {Q:Exit→Act→World→Prop} (q:op.guard=none) (s x:Operand) (t:TypeId)
  (D:op.op=.call { callee:=.builtin .append,args:=#[s,x],argTypes:=#[t,t] })
  (o:Tags) (nd:Nat) (e:TypeId) (i:TypeInfo) (z:Value) (size bytes:Nat) (G:P.underlying t=some (.slice e)) (hi:P.info? e=some i) (I:i.zero=some z)
  (f:i.size=size) (p:i.bytes=bytes) (y:z.cells.size=size) (r:0<size)
  (v:Value) (n:Nat) (xs:List Value) (F:a.eval s=v) (k:Row w o nd e size v n xs)
  (ad:Addr) (m c:Nat) (news:List Value) (H:a.eval x=.slice (some ad) m c) (C:news.length=m*size) (d:∀ j u,news[j]?=some u→w.cell? (ad.add j)=some u) (A:∀ u∈news,u.oneCell'=true)
  (l:n+m≤maxLen) (b:(n+m)*bytes≤140737488355328)
  (h:∀ v' w',AppOut w o nd e size v v' w' (n+m) (xs++news)→wpList P ops Q rest (a.put op.dst v') w'):wpList P ops Q (op::rest) a w:=by
 refine wpList_plain q fun K B=>?_;obtain⟨v',w',E,g⟩:=hE3 (P:=P) (w:=w) o nd t op.type e i z size bytes G hi I f p y r v n xs k ad m c news C d A l b;unfold Oper.wp execOp;simp only[D,resolve,invoke,builtin,Sem.run_bind,Sem.run_pure,Result.andThen_ok,List.map_toArray,List.map_cons,List.map_nil,F,H,E];exact B _ _ (h _ _ g)
theorem Blk.ne {w:World} {o:Tags} {i b:Nat} {T:TypeId} {cs:Array Value} (h:Blk w o i b T cs) {base:Nat} {e:TypeId} {k:Nat} {v:Value} {n:Nat} {xs:List Value} (f:w.ownsRow base e k v n xs) (c:T≠e):v.ownBlock≠some b:=by
 intro d;rcases f.2 with⟨rfl,_⟩ | ⟨g,cap,cur,rfl,_,a,_⟩
 ·cases d
 ·cases d;rw[h.1] at a;injection a with a;injection a with _ h2 _;exact c h2
theorem AppOut.blk {w:World} {o:Tags} {i:Nat} {e:TypeId} {k:Nat} {v v':Value} {w':World} {n m:Nat} {xs ys:List Value} (h:AppOut w o i e k v v' w' n xs) (d:w.ownsRow 0 e k v m ys) {b:Nat} {T:TypeId} {cs:Array Value} (a:Blk w o i b T cs) (c:T≠e):Blk w' (o.ext w.heap.size i) i b T cs:=
 ⟨(h.grown.block b a.lt (fun e=>a.ne d c e.symm)).trans a.1,by rw[Tags.ext_old _ _ _ _ a.lt];exact a.2⟩
theorem AppOut.other {w:World} {o:Tags} {i:Nat} {e:TypeId} {k:Nat} {v v':Value} {w':World} {n m:Nat} {xs ys:List Value} (h:AppOut w o i e k v v' w' n xs) (j:w.ownsRow 0 e k v m ys) {T:TypeId} {k2:Nat} {u:Value} {n2:Nat} {zs:List Value} (d:Row w o i T k2 u n2 zs) (f:T≠e):Row w' (o.ext w.heap.size i) i T k2 u n2 zs:=by
 refine⟨World.ownsRow.kept d.1 h.grown ?_,fun g c=>by rw[Tags.ext_old _ _ _ _ (d.lt g c)];exact d.2 g c⟩;cases hub:u.ownBlock with
 |none=>exact .inl rfl
 |some b=>
  refine .inr (fun e=>?_);rcases d.1.2 with⟨rfl,_⟩ | ⟨g,cap,cur,rfl,_,c,_⟩
  ·cases hub
  ·cases hub;rcases j.2 with⟨rfl,_⟩ | ⟨g',cap',cur',rfl,_,a,_⟩
   ·cases e
   ·cases e;rw[c] at a;injection a with a;injection a with _ h2 _;exact f h2
theorem Blk.set {w:World} {o:Tags} {i b:Nat} {T:TypeId} {cs:Array Value} (h:Blk w o i b T cs) (k:Nat) (v:Value):Blk (w.setCell ⟨b,k,none⟩ v) o i b T (cs.setIfInBounds k v)∧w.grownBy (w.setCell ⟨b,k,none⟩ v) (some b)∧Chg i o o w (w.setCell ⟨b,k,none⟩ v):=by
 have a:w.grownBy (w.setCell ⟨b,k,none⟩ v) (some b):=hAb (hAa (Below.refl _ _) _) (p:=⟨b,k,none⟩) (.inl rfl) _;exact⟨⟨heap_setCell_same w b k _ _ _ h.1,h.2⟩,a,Chg.grown a (fun k c _=>by cases c;exact h.2)⟩
theorem Row.set {w:World} {o:Tags} {i:Nat} {T:TypeId} {k:Nat} {v:Value} {n:Nat} {xs:List Value} (h:Row w o i T k v n xs) {b:Nat} {B:TypeId} {cs:Array Value} (c:Blk w o i b B cs) (a:B≠T) {w':World} (d:w.grownBy w' (some b)):Row w' o i T k v n xs:=
 ⟨World.ownsRow.kept h.1 d (by cases f:v.ownBlock with
  |none=>exact .inl rfl
  |some g=>exact .inr (fun e=>c.ne h.1 a (f.trans e))),h.2⟩
end Go.Proofs.YtlibpcllceepkaaGreat
