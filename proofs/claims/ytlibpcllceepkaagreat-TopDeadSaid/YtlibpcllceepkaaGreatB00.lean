/- Joined texts of the claim. No condition. -/
import Derived.WalkKit
import Derived.WalkLawsBesides
import Derived.WalkSpells
import Derived.Below
import Derived.Lib.Hide
import Derived.Outline
import Derived.OwnWalk
import Derived.Laws.IdiomStrings
import Derived.Laws.BytesArg
import Derived.Laws.NewBlocks
import Derived.Lib.Builder
import Derived.Lib.UnsafeStr
import Derived.Lib.ConvBytes
import Derived.Lib.Strings
import Derived.Deep.Draws
import Derived.Deep.AppendLies
import Derived.Maps.AppendAt
import Derived.RegionTactic
import Derived.Deep.QuietTactic
import Derived.BigQuiet
import Derived.Test.YtlibpcllceepkaaGreatProg
import Derived.Deep.Quiet
import Derived.Deep.RegionWith
import Derived.StillTail
import Derived.Laws.Externs
namespace Go.Proofs.YtlibpcllceepkaaGreat
open Go.RowKit
set_option maxRecDepth 100000
set_option linter.unusedVariables false
set_option linter.unusedSimpArgs false
set_option maxHeartbeats 16000000
def zI (p:Prop):Prop:=p
theorem zH {p:Prop} (h:p):zI p:=h
theorem zI.o {p:Prop} (h:zI p):p:=h
theorem zR (w:World) (g j:Nat) (cs:Array Value) (t:TypeId) (fr:Nat×Nat) (a:w.heap[g]?=some (.cells cs t fr)):w.cell? ⟨g,j,none⟩=cs[j]?:=cell_of_row w g j cs t fr a
theorem zQ (w:World) (g j:Nat) (v:Value) {cs:Array Value} {t:TypeId} {fr:Nat×Nat} (a:w.heap[g]?=some (.cells cs t fr)) (h:cs[j]?=some v:=by exact rfl):w.cell? ⟨g,j,none⟩=some v:=(cell_of_row w g j cs t fr a).trans h
theorem zB {w w1 w2:World} (h:Below w.heap.size w w1) (k:Below w1.heap.size w1 w2):Below w.heap.size w w2:=h.trans (k.mono h.size)
theorem zN {α:Type} (x:α):∃ y,y=x:=⟨x,rfl⟩
theorem zL {α:Type} {xs:Array α} {i:Nat} {b:α} (h:xs[i]?=some b):i<xs.size:=(Array.getElem?_eq_some_iff.1 h).1
theorem gAh {v v':Value} (h:v=v'):Ending.returned v=.returned v':=by rw[h]
theorem hPv {k:IntKind} {a b:Int} (h:a=b):Ending.returned (.int k a)=.returned (.int k b):=by rw[h]
def bs (l:List UInt8):ByteArray:=⟨l.toArray⟩
theorem hA3 (l:List UInt8):(bs l).size=l.length:=by simp[bs,ByteArray.size]
theorem hPm (l:List UInt8):(bs l).data.toList=l:=by simp[bs]
theorem hIl (s:ByteArray):bs s.data.toList=s:=by simp[bs]
theorem hYw {a b:List UInt8} (h:bs a=bs b):a=b:=by
 have:=congrArg (fun s:ByteArray=>s.data.toList) h;simpa[bs] using this
theorem hRe {P:Program} {w:World} {base n:Nat} {v:Value} {l:List UInt8} (src dst e:TypeId) (c:P.underlying src=some (.slice e)) (b:P.underlying e=some (.int .u8)) (a:P.underlying dst=some .string)
  (h:w.ownsRow base e 1 v n (Lib.byteCells l)):(convert src dst v).run P w=.ok (.string (bs l)) w:=by
 have i:l.length=n:=by have:=h.1;simpa[Lib.byteCells_length] using this
 rcases h.2 with⟨rfl,k⟩ | ⟨g,cap,cur,rfl,_,m,_,_,_,d⟩
 ·have:l=[]:=List.eq_nil_of_length_eq_zero (by omega);subst this;exact run_convert_bytes_nil (P:=P) (w:=w) src e c b 0 0 dst a
 ·subst i;refine run_convert_bytes_back w src dst e ⟨g,0,none⟩ cap l c b a (fun j f=>?_);have:=h.cells (g:=g) rfl j (.int .u8 (l[j].toNat:Int)) (by simp[Lib.byteCells,List.getElem?_eq_getElem f]);exact this
theorem hKy (l:List UInt8):∀ v∈Lib.byteCells l,v.oneCell'=true:=by
 intro v a;simp only[Lib.byteCells,List.mem_map] at a;obtain⟨b,_,rfl⟩:=a;rfl
theorem hYp (l:List UInt8):Lib.byteCells l=l.map fun b=>Value.int .u8 (b.toNat:Int):=by simp[Lib.byteCells]
theorem bcell {W w1:World} (a:Below W.heap.size W w1):(∀ b o,b<W.heap.size→w1.cell? ⟨b,o,none⟩=W.cell? ⟨b,o,none⟩)∧(∀ b o,b<W.heap.size→w1.frozen? ⟨b,o,none⟩=W.frozen? ⟨b,o,none⟩):=
 ⟨fun b o h=>a.cell (p:=⟨b,o,none⟩) h,fun b o h=>a.frozen (p:=⟨b,o,none⟩) h⟩
theorem hEl (w:World) (cur:Array Value) (e:TypeId) (n cap base:Nat) (a:base≤w.heap.size) (hc:cur.size=cap) (c:n≤cap) (b:cap≤maxLen) :
  (w.alloc (.cells cur e)).ownsRow base e 1 (.slice (some ⟨w.heap.size,0,none⟩) n cap) n (cur.toList.take n):=
 ⟨by rw[List.length_take,Array.length_toList];omega,.inr ⟨w.heap.size,cap,cur,rfl,a,heap_alloc_new w _,c,b,by omega,by rw[Nat.mul_one]⟩⟩
theorem gAg {ops:Array Oper} {rest:List Oper} {o:Oper} {a:Act} {Q:Exit→Act→World→Prop} (q:o.guard=none) (s x:Operand) (t e:TypeId)
  (J:o.op=.call { callee:=.builtin .append,args:=#[s,x],argTypes:=#[t,t] })
  {z:Value} {bytes:Nat} (hi:(Tryz.prog.info? e).map (fun i=>(i.zero,i.size,i.bytes))=some (some z,1,bytes)) (L:Tryz.prog.underlying t=some (.slice e)) (N:z.cells.size=1)
  (W0 w:World) (B base:Nat) (O:B≤base) (E:base≤w.heap.size) (g:Below B W0 w)
  (v:Value) (n:Nat) (xs:List Value) (K:a.eval s=v) (b:w.ownsRow base e 1 v n xs)
  (cs:Array Value) (m c:Nat) (M:a.eval x=.slice (some ⟨w.heap.size,0,none⟩) m c) (I:cs.size=m) (F:∀ u∈cs.toList,u.oneCell'=true)
  (p:(n+m)*bytes≤140737488355328) (d:n+m≤maxLen)
  (h:∀ v' w',w'.ownsRow base e 1 v' (n+m) (xs++cs.toList)→Below B W0 w'→w.heap.size≤w'.heap.size→(w.alloc (.cells cs e)).grownBy w' v.ownBlock→wpList Tryz.prog ops Q rest (a.put o.dst v') w') :
  wpList Tryz.prog ops Q (o::rest) a (w.alloc (.cells cs e)):=by
 obtain⟨i0,r,y,C,D⟩:=info_parts hi;refine wpList_append_own (w.alloc (.cells cs e)) q s x t J base e i0 z 1 bytes L r y C D N (by decide) v n xs K (b.alloc _) ⟨w.heap.size,0,none⟩ m c cs.toList M (by simp[I]) ?_ F d p (by simp;omega) ?_
 ·intro j v G;have:(⟨w.heap.size,0,none⟩:Addr).add j=⟨w.heap.size,j,none⟩:=by unfold Addr.add;split<;>simp_all
  rw[this,zR (w.alloc (.cells cs e)) w.heap.size j cs e (0,0) (heap_alloc_new w _)];simpa using G
 ·intro v' w' f l _;refine h v' w' f ?_ (by have:=l.size;simp at this;omega) l;refine(g.alloc (by omega) _).grown l (by simp;omega) (fun k H=>?_);have:=(b.lt k H).1;omega
theorem hZ7 {P:Program} {f:FuncId} {args:Array Value} {w:World} {a n:Nat} {v:Value}
  (h:Calls P f args (w.drewN (a+n)) fun e w'=>e=.returned v∧∃ m,w'=(w.drewN (a+n)).drewN m) :
  Calls P f args (w.drewN (a+n)) fun e w''=>e=.returned v∧∃ m,w''=w.drewN (a+m):=
 h.mono fun _ _ ⟨b,m,c⟩=>⟨b,n+m,by rw[c,World.drewN_drewN,Nat.add_assoc]⟩
theorem hXx {P:Program} {f:FuncId} {args:Array Value} {w:World} {a n:Nat} {v:Value}
  (h:Calls P f args (w.drewN (a+n)) fun e w'=>e=.returned v∧w'=w.drewN (a+n)) :
  Calls P f args (w.drewN (a+n)) fun e w''=>e=.returned v∧∃ m,w''=w.drewN (a+m):=
 h.mono fun _ _ ⟨b,c⟩=>⟨b,n,c⟩
theorem hAc {B:Nat} {a w:World} (h:Below B a w) (n:Nat):Below B a (w.drewN n):=⟨h.os,h.tape,h.output,h.size,h.block⟩
theorem hZz {a w:World} {row:Option Nat} (h:a.grownBy w row) (n:Nat):a.grownBy (w.drewN n) row:=⟨h.os,h.tape,h.output,h.size,h.block⟩
theorem hZ6 {a w:World} {row:Option Nat} (h:a.grownBy w row):a.grownBy w.drew row:=⟨h.os,h.tape,h.output,h.size,h.block⟩
theorem hZy {a w:World} {row:Option Nat} (h:a.grownBy w row) (o:Obj):a.grownBy (w.alloc o) row:=
 ⟨h.os,h.tape,h.output,Nat.le_trans h.size (by simp),fun i hi b=>(Below.heap_alloc w o i (Nat.lt_of_lt_of_le hi h.size)).trans (h.block i hi b)⟩
theorem hAb {a w:World} {g:Nat} (h:a.grownBy w (some g)) {p:Addr} (b:p.block=g∨a.heap.size≤p.block) (u:Value):a.grownBy (w.setCell p u) (some g):=
 ⟨h.os,h.tape,h.output,by simpa[World.setCell] using h.size,fun i hi c=>(Below.heap_setCell w p u i (by
  rintro rfl;rcases b with b | b
  ·exact c (by rw[b])
  ·omega)).trans (h.block i hi c)⟩
theorem hAa {a w:World} (h:Below a.heap.size a w) (row:Option Nat):a.grownBy w row:=⟨h.os,h.tape,h.output,h.size,fun i hi _=>h.block i hi⟩
theorem gAe {P:Program} {c:Code} {Q:Exit→Act→World→Prop} {a:Act} {w:World} (I:World→Prop) (h:I w) (k:∀ w',I w'→Code.wp P c Q a w'):Code.wp P c Q a w:=k w h
theorem hAk {w:World} {base size n:Nat} {e:TypeId} {v:Value} {xs:List Value} (h:w.ownsRow base e size v n xs):∃ A c,v=.slice A n c:=by
 rcases h.2 with⟨rfl,rfl⟩ | ⟨g,cap,cur,rfl,_⟩
 ·exact⟨_,_,rfl⟩
 ·exact⟨_,_,rfl⟩
def G (a:Act) (i:Nat):Value:=a.tmps.getD i undef
def loopsOf:Code→List Code
 |.loop c=>c::loopsOf c
 |.seq a b=>loopsOf a++loopsOf b
 |.block _ c=>loopsOf c
 |.scope c=>loopsOf c
 |.cond _ a b=>loopsOf a++loopsOf b
 |_=>[]
theorem hZ9 (n:Nat) (a:Act) (c:a.tmps.size=n) (b:a.defers=[]):a=⟨((List.range n).map (G a)).toArray,[]⟩:=by
 obtain⟨T,D⟩:=a;simp only at c b;subst b
 congr 1
 apply Array.ext
 ·simp[c]
 ·intro i d e;simp[G,Array.getD,d]
theorem hJ5:(Tryz.prog.info? 5).map (fun i=>(i.zero,i.size,i.bytes))=some (some (.int .u8 0),1,1):=by kernel_rfl
theorem hAl (b off j:Nat):(⟨b,off,none⟩:Addr).add j=⟨b,off+j,none⟩:=by unfold Addr.add;split<;>simp_all
abbrev St:=Int×ByteArray
def Seats (w:World) (a:Option Addr) (n c:Nat) (l:List St):Prop:=
 l.length=n∧n≤c∧c≤maxLen∧(a=none→n=0∧c=0)∧∀ ad,a=some ad→∃ b off,(0<n→ad=⟨b,off,none⟩∧b<w.heap.size) ∧
  ∀ i,i<n→w.cell? ⟨b,off+i*2,none⟩=some (.int .i64 (l.getD i (0,ByteArray.empty)).1)∧w.cell? ⟨b,off+i*2+1,none⟩=some (.string (l.getD i (0,ByteArray.empty)).2)
theorem Seats.keep {w w':World} {a:Option Addr} {n c:Nat} {l:List St} (h:Seats w a n c l) (e:Below w.heap.size w w'):Seats w' a n c l:=by
 refine⟨h.1,h.2.1,h.2.2.1,h.2.2.2.1,fun ad k=>?_⟩;obtain⟨b,off,d,g⟩:=h.2.2.2.2 ad k;refine⟨b,off,fun f=>⟨(d f).1,Nat.lt_of_lt_of_le (d f).2 e.size⟩,fun i hi=>?_⟩;have j:=(d (by omega)).2;exact⟨(e.cell (p:=⟨b,off+i*2,none⟩) j).trans (g i hi).1,(e.cell (p:=⟨b,off+i*2+1,none⟩) j).trans (g i hi).2⟩
theorem Seats.at {w:World} {a:Option Addr} {n c:Nat} {l:List St} (h:Seats w a n c l) (k:Nat) (g:k<n) :
  ∃ b off,a=some ⟨b,off,none⟩∧b<w.heap.size∧∀ i,i<n→w.cell? ⟨b,off+i*2,none⟩=some (.int .i64 (l.getD i (0,ByteArray.empty)).1)∧w.cell? ⟨b,off+i*2+1,none⟩=some (.string (l.getD i (0,ByteArray.empty)).2):=by
 cases a with
 |none=>have:=h.2.2.2.1 rfl;omega
 |some ad=>
  obtain⟨b,off,d,e⟩:=h.2.2.2.2 ad rfl;obtain⟨rfl,f⟩:=d (by omega);exact⟨b,off,rfl,f,e⟩
def seatCells (l:List St):List Value:=l.flatMap fun s=>[.int .i64 s.1,.string s.2]
theorem hYd (l:List St) (s:St):seatCells (l++[s])=seatCells l++[.int .i64 s.1,.string s.2]:=by simp[seatCells]
theorem hIb (l:List St):(seatCells l).length=l.length*2:=by
 induction l with
 |nil=>rfl
 |cons s r ih=>
  have:seatCells (s::r)=[.int .i64 s.1,.string s.2]++seatCells r:=rfl;rw[this,List.length_append,ih,List.length_cons];simp only[List.length_cons,List.length_nil];omega
theorem hFx:∀ (l:List St) (i:Nat),i<l.length→(seatCells l)[i*2]?=some (.int .i64 (l.getD i (0,ByteArray.empty)).1)∧(seatCells l)[i*2+1]?=some (.string (l.getD i (0,ByteArray.empty)).2)
 |[],i,h=>by simp at h
 |s::r,0,_=>⟨rfl,rfl⟩
 |s::r,i+1,h=>by
  have:=hFx r i (by simpa using h);have e:seatCells (s::r)=.int .i64 s.1::.string s.2::seatCells r:=rfl;rw[e,show(i+1)*2=i*2+1+1 by omega,List.getElem?_cons_succ,List.getElem?_cons_succ,List.getElem?_cons_succ,List.getElem?_cons_succ];exact this
def OwnB (w:World) (base:Nat) (v:Value) (L:List UInt8):Prop:=w.ownsRow base 5 1 v L.length (Lib.byteCells L)
theorem OwnB.keep {w w':World} {base:Nat} {v:Value} {L:List UInt8} (h:OwnB w base v L) (a:Below w.heap.size w w'):OwnB w' base v L:=
 World.ownsRow.kept h (row:=none) (hAa a none) (by cases b:Value.ownBlock _<;>simp)
theorem OwnB.form {w:World} {base:Nat} {v:Value} {L:List UInt8} (h:OwnB w base v L) (a:L≠[]):∃ g c,v=.slice (some ⟨g,0,none⟩) L.length c∧base≤g∧g<w.heap.size∧∀ j u,(Lib.byteCells L)[j]?=some u→w.cell? ((⟨g,0,none⟩:Addr).add j)=some u:=by
 rcases h.2 with⟨_,b⟩ | ⟨g,cap,cur,rfl,d,e,_⟩
 ·exact absurd (List.eq_nil_of_length_eq_zero b) a
 ·exact⟨g,cap,rfl,d,(zL e),World.ownsRow.cells h rfl⟩
theorem hTq {w w':World} {base b:Nat} {v:Value} {L:List UInt8} (h:OwnB w base v L) (c:b<base) (a:w.grownBy w' (some b)):OwnB w' base v L:=
 World.ownsRow.kept h a (.inr (fun e=>by have:=(World.ownsRow.lt h b e).1;omega))
theorem hJz {w w':World} {B:Nat} {row:Option Nat} (a:B≤w.heap.size) (b:w.grownBy w' row) (c:∀ k,row=some k→B≤k):Below B w w':=
 (Below.refl B w).grown b a c
def beL (m n:Nat):List UInt8:=if m=1 then [UInt8.ofNat n] else [UInt8.ofNat (n / 256),UInt8.ofNat (n % 256)]
theorem hEt (n:Nat) (a:n<256):((UInt8.ofNat n).toNat:Int)=(n:Int):=by rw[UInt8.toNat_ofNat'];omega
theorem hZ0 {w:World} {b off n c:Nat} {l:List St} (h:Seats w (some ⟨b,off,none⟩) n c l) (d:0<n):∀ j u,(seatCells l)[j]?=some u→w.cell? ((⟨b,off,none⟩:Addr).add j)=some u:=by
 obtain⟨b',off',e,k,hc⟩:=h.at 0 d;cases e;intro j u a;have f:j<l.length*2:=by
  have:=(List.getElem?_eq_some_iff.1 a).1
  rwa [hIb] at this
 have g:=h.1;rw[hAl];obtain⟨i,r,m,rfl⟩:∃ i r,r<2∧j=i*2+r:=⟨j / 2,j % 2,by omega,by omega⟩;obtain⟨k0,k1⟩:=hc i (by omega);obtain⟨s0,s1⟩:=hFx l i (by omega);have:r=0∨r=1:=by omega
 rcases this with rfl | rfl
 ·rw[Nat.add_zero] at a ⊢;rw[s0] at a;rw[←a];exact k0
 ·rw[s1] at a;rw[←a,←Nat.add_assoc];exact k1
theorem hYq (l:List St):∀ u∈seatCells l,u.oneCell'=true:=by
 intro u b;simp only[seatCells,List.mem_flatMap] at b;obtain⟨s,_,a⟩:=b;simp at a;rcases a with rfl | rfl<;>rfl
theorem hQc (l:List UInt8) (a b:Nat):(bs l).extract a b=bs ((l.drop a).take (b - a)):=by
 rw[Lib.extract_eq,hPm];rfl
theorem hEn (w:World) (s:ByteArray):Below w.heap.size w (Lib.bytesWorld w 5 s):=
 ⟨rfl,rfl,rfl,by rw[Lib.bytesWorld_size];omega,fun k a=>Lib.bytesWorld_at_old w _ s k a⟩
theorem hEu {a b c:World} {row:Option Nat} (h:a.grownBy b row) (d:b.grownBy c row):a.grownBy c row:=
 ⟨d.os.trans h.os,d.tape.trans h.tape,d.output.trans h.output,Nat.le_trans h.size d.size,fun k f e=>(d.block k (Nat.lt_of_lt_of_le f h.size) e).trans (h.block k f e)⟩
structure Bel (B:Nat) (W:World) where
 w:World
 h:Below B W w
instance bel_nonempty (B:Nat) (W:World):Nonempty (Bel B W):=⟨⟨W,Below.refl _ _⟩⟩
theorem hAg {P:Program} {id:Nat} {Q:Exit→Act→World→Prop} {a:Act} {w:World} {l:List Oper} (B:Nat) (W:World) (d:P.follows .mixedOrders=true) (c:Region.lexB .any l.toArray=true) (b:Below B W w)
  (h:wpQuiet P l.toArray (fun w'=>∃ x:Bel B W,w'=x.w) (fun a'=>∀ w',(∃ x:Bel B W,w'=x.w)→Q .normal a' w') l a):(Code.region id l.toArray true).wp P Q a w:=
 wp_region_quiet (C:=fun w'=>∃ x:Bel B W,w'=x.w) d c ⟨⟨{ w with drawn:=w.drawn+1 },⟨b.os,b.tape,b.output,b.size,b.block⟩⟩,rfl⟩ (by simpa using h)
theorem hAq {P:Program} {f:FuncId} {args:Array Value} {B:Nat} {W:World} {x:Bel B W} {v:Value} (a:B≤W.heap.size)
  (h:Calls P f args x.w fun e w'=>e=.returned v∧Below x.w.heap.size x.w w'):Calls P f args x.w fun e w''=>e=.returned v∧∃ y:Bel B W,w''=y.w:=
 h.mono fun _ w' ⟨c,b⟩=>⟨c,⟨w',x.h.trans (b.mono (Nat.le_trans a x.h.size))⟩,rfl⟩
theorem hAw {P:Program} {f:FuncId} {args:Array Value} {B:Nat} {W:World} {x:Bel B W} {v:Value}
  (h:Calls P f args x.w fun e w'=>e=.returned v∧x.w=w'):Calls P f args x.w fun e w''=>e=.returned v∧∃ y:Bel B W,w''=y.w:=
 h.mono fun _ w' ⟨b,a⟩=>⟨b,x,a.symm⟩
theorem Bel.cell {B:Nat} {W:World} (x:Bel B W) {b o:Nat} {v:Value} (a:b<B) (h:W.cell? ⟨b,o,none⟩=some v):x.w.cell? ⟨b,o,none⟩=some v:=
 (x.h.cell (p:=⟨b,o,none⟩) a).trans h
section
variable {P:Program} {ops:Array Oper} {md:Region.Mode} {C:World→Prop}
def headQ (P:Program) (md:Region.Mode) (ops:Array Oper) (C:World→Prop) (n:Nat) (L:Array Bool→Act→Prop):Nat→Array Bool→Act→Prop
 |0,done,a=>L done a
 |f+1,done,a=>Region.ready md ops done≠[]∧∀ i∈Region.ready md ops done,i<n∧qOp P ops C i (headQ P md ops C n L f (done.setIfInBounds i true)) a
theorem hLs {n g:Nat} {L:Array Bool→Act→Prop} {R:Exit→Act→World→Prop} (j:∀ done a,L done a→∀ w,C w→wpAny P md ops R g done a w) :
  ∀ (f:Nat) (done:Array Bool) (a:Act) (w:World),C w→headQ P md ops C n L f done a→wpAny P md ops R (f+g) done a w:=by
 intro f;induction f with
 |zero=>intro done a w b h;rw[Nat.zero_add];exact j _ _ h w b
 |succ f ih=>
  intro done a w b h;rw[show f+1+g=(f+g)+1 by omega];refine⟨fun e=>absurd e h.1,fun i hi=>?_⟩;exact wpOp_of_qOp b (fun a' w' c d=>ih _ a' w' c d) (h.2 i hi).2
theorem hOs {n i:Nat} {oi:Oper} {v:Value} {L:Array Bool→Act→Prop} (hi:ops[i]?=some oi) (q:∀ (j:Nat) (o:Oper) cs b,ops[j]?=some o→o.op≠.select cs b)
  (K:Region.sinkB md ops n=true) (hc:Region.chainB md ops n=true) (J:n<ops.size) (A:i<n) (r:∀ done a,L done a→∀ j∈Region.ready md ops done,n≤j) :
  ∀ (f:Nat) (done:Array Bool) (a:Act),HeadInv md ops n done →
   (∀ j oj,ops[j]?=some oj→j≠i→done.getD j true=false→(∀ e∈oj.after,Region.binds md e=true→e.on≠i)→oi.apart ops oj=true) →
   i∈Region.ready md ops done→YieldsIn P ops C oi v a→headQ P md ops C n L f (done.setIfInBounds i true) (a.put oi.dst v)→headQ P md ops C n L (f+1) done a:=by
 have low:∀ (done:Array Bool),HeadInv md ops n done→i∈Region.ready md ops done→∀ j∈Region.ready md ops done,j<n:=by
  intro done inv c j d;by_cases h:j<n
  ·exact h
  ·exact absurd d (tail_waits K hc J inv _ i rfl A (mem_ready.1 c).1 j (by omega))
 intro f;induction f with
 |zero=>
  intro done a inv _ c s H;refine⟨fun h=>(by rw[h] at c;cases c),fun j d=>⟨low done inv c j d,?_⟩⟩;by_cases hji:j=i
  ·subst hji;exact s.qOp hi H
  ·have x:=r _ _ H j (ready_mono d hji);have l:=low done inv c j d;omega
 |succ f ih=>
  intro done a inv g c s H;have E:=(mem_ready.1 c).1;refine⟨fun h=>(by rw[h] at c;cases c),fun j d=>⟨low done inv c j d,?_⟩⟩;by_cases hji:j=i
  ·subst hji;exact s.qOp hi H
  ·have x:=(H.2 j (ready_mono d hji)).2;obtain⟨m,oj,p,u⟩:=mem_ready.1 d;have w:∀ e∈oj.after,Region.binds md e=true→e.on≠i:=by
    intro e G F z;have l:=u e G F;rw[z,getD_both E] at l;cases l
   have l:=qOp_put p (g j oj p hji m w) (fun cs b=>q i oi cs b hi) (fun cs b=>q j oj cs b p) s x;refine qOp_mono (fun a' y=>ih (done.setIfInBounds j true) a' (inv.set d (low done inv c j d)) (fun k ok I B t D=>?_) (ready_mono c (Ne.symm hji)) y.1 ?_) l
   ·refine g k ok I B ?_ D;by_cases hjk:j=k
    ·subst hjk;exact m
    ·rw[getD_set_ne true hjk] at t;exact t
   ·rw[Array.setIfInBounds_comm _ _ hji];exact y.2
theorem hSt {n g:Nat} {T:Act→Prop} (e:Region.noSelect ops=true) (s:Region.sinkB md ops n=true) (hc:Region.chainB md ops n=true) (q:n<ops.size) :
  ∀ (l:List Oper) (k:Nat) (done:Array Bool) (a:Act),(∀ j,j<l.length→l[j]?=ops[k+j]?)→k+l.length=n→HeadInv md ops n done →
  Region.lexHead md ops g l.length k done=true→wpQuiet P ops C T l a →
  headQ P md ops C n (fun done' a'=>Region.seqB md ops g n done'=true∧T a') l.length done a:=by
 intro l;induction l with
 |nil=>
  intro k done a _ d _ b h;obtain rfl:k=n:=by simpa using d
  exact⟨by simpa[Region.lexHead] using b,h⟩
 |cons o l ih=>
  intro k done a f d inv b h;have c:ops[k]?=some o:=by simpa using(f 0 (by simp)).symm
  simp only[List.length_cons] at d;simp only[List.length_cons,Region.lexHead,Bool.and_eq_true] at b;have i:k∈Region.ready md ops done:=by simpa using b.1.1
  have r:qOp P ops C k (wpQuiet P ops C T l) a:=by unfold qOp;simp only[c];exact h
  obtain⟨v,t,m⟩:=yieldsIn_of_qOp c r;exact hOs c (Region.noSelect_spec e) s hc q (by omega) (fun _ _ p=>seqB_ready p.1) l.length done a inv (Region.free_spec c b.1.2) i t
   (ih (k+1) _ _ (fun j u=>by have:=f (j+1) (by simp;omega);simpa[Nat.add_assoc,Nat.add_comm 1 j] using this) (by omega) (inv.set i (by omega)) b.2 m)
end
theorem hAi {P:Program} {id:Nat} {Q:Exit→Act→World→Prop} {a:Act} {w:World} {l:List Oper} (n:Nat) (B:Nat) (W:World) (r:P.follows .mixedOrders=true) (i:Region.lexTailB .any l.toArray n=true) (c:Below B W w)
  (h:wpQuiet P l.toArray (fun w'=>∃ x:Bel B W,w'=x.w) (fun a'=>∀ x:Bel B W,wpList P l.toArray Q (l.drop n) a' x.w) (l.take n) a):(Code.region id l.toArray true).wp P Q a w:=by
 simp only[Region.lexTailB,Bool.and_eq_true,decide_eq_true_eq] at i;obtain⟨⟨⟨⟨f,p⟩,s⟩,hc⟩,e⟩:=i;have v:n<l.length:=by simpa using p
 have b:(l.take n).length=n:=by simp;omega
 have d:(l.drop n).length=l.toArray.size - n:=by simp
 have inv0:HeadInv .any l.toArray n (Array.replicate l.toArray.size false):=
  ⟨by simp,fun j oj _ o=>(by rw[getD_replicate_false] at o;cases o),fun t _ u=>getD_in (by simpa using u) (getD_replicate_false _ _)⟩
 have H:=hSt (md:=.any) (g:=l.toArray.size - n) f s hc p (l.take n) 0 _ a (fun j m=>by
  rw[b] at m;simp[m]) (by simpa using b) inv0 (by rw[b];exact e) h
 refine wp_region_any r ?_;have:=hLs (R:=Q) (g:=l.toArray.size - n) (fun done a' k w' q=>by
  obtain⟨x,rfl⟩:=q;have:=wpAny_of_seq (md:=.any) (Q':=Q) (l.drop n) n done a' x.w (fun j=>by simp[List.getElem?_drop]) (by rw[d];exact k.1) (k.2 x)
  rwa [d] at this) _ _ _ { w with drawn:=w.drawn+1 } ⟨⟨{ w with drawn:=w.drawn+1 },⟨c.os,c.tape,c.output,c.size,c.block⟩⟩,rfl⟩ H
 rw[b,show n+(l.toArray.size - n)=l.toArray.size by omega] at this;exact this
def Mem (w:World) (A:Option Addr) (c:Nat):Prop:=4≤c∧c≤maxLen∧∃ b off,A=some ⟨b,off,none⟩∧b<w.heap.size∧∀ k,k<4→w.cell? ⟨b,off+k,none⟩=some (.int .i64 k)
theorem Mem.keep {w w':World} {A:Option Addr} {c:Nat} (h:Mem w A c) (d:Below w.heap.size w w'):Mem w' A c:=by
 obtain⟨e,f,b,off,g,a,i⟩:=h;exact⟨e,f,b,off,g,Nat.lt_of_lt_of_le a d.size,fun k j=>(d.cell (p:=⟨b,off+k,none⟩) a).trans (i k j)⟩
theorem faults4 (w:World):Calls Tryz.prog 203 #[.int .i64 4] w fun e w'=>e=.returned (.int .i64 1)∧w=w':=by
 go_enter Tryz.func203,Tryz.ntmps203;go_wp2_with fail;go_ret;exact⟨rfl,rfl⟩
theorem quorum4 (w:World):Calls Tryz.prog 208 #[.int .i64 4] w fun e w'=>e=.returned (.int .i64 3)∧w=w':=by
 go_enter Tryz.func208,Tryz.ntmps208;go_wp2_with fail;refine(faults4 w).mono ?_;rintro e w1 ⟨rfl,rfl⟩;go_wp2_with fail;go_ret;exact⟨rfl,rfl⟩
theorem weak4 (w:World):Calls Tryz.prog 200 #[.int .i64 4] w fun e w'=>e=.returned (.int .i64 2)∧w=w':=by
 go_enter Tryz.func200,Tryz.ntmps200;go_wp2_with fail;refine(faults4 w).mono ?_;rintro e w1 ⟨rfl,rfl⟩;go_wp2_with fail;go_ret;exact⟨rfl,rfl⟩
theorem rising4 (A:Option Addr) (c:Nat) (w:World) (h:Mem w A c):Calls Tryz.prog 42 #[.slice A 4 c] w fun e w'=>e=.returned (.bool true)∧w=w':=by
 obtain⟨g,f,b,off,rfl,i,a⟩:=h;have d:=zH a;clear a;unfold maxLen at f;go_enter Tryz.func42,Tryz.ntmps42;go_wp2_with fail
 go_loop [3,8] (fun t j=>∃ k:Nat,k≤4∧j=.int .i64 k∧t=.int .i64 ((k:Int) - 1)) (fun _ j=>4 - (intOf j).toNat)
 case atStart=>exact⟨0,by omega,rfl,rfl⟩
 case round=>
  obtain⟨k,l,rfl,rfl⟩:=hrel;by_cases hk4:k<4
  ·have n1:(k:Int)<4:=by omega
   have n2:¬ (k:Int)≤(k:Int) - 1:=by omega
   have n3:¬ (16:Int)≤(k:Int):=by omega
   have hc:=d.o k hk4;go_wp2_with fail
   go_round
   case rel=>exact⟨k+1,by omega,by go_num,by go_num⟩
   case measure=>simp[intOf];omega
  ·obtain rfl:k=4:=by omega
   go_wp2_with fail;go_ret;exact⟨rfl,rfl⟩
theorem right4 (e:Nat) (j:e≤60) (A:Option Addr) (c:Nat) (w:World) (h:Mem w A c):Calls Tryz.prog 19 #[.agg #[.int .i64 e,.slice A 4 c]] w fun x w'=>x=.returned (.bool true)∧Below w.heap.size w w':=by
 have i:(0:Int)≤(e:Int):=by omega
 have g:(e:Int)≤60:=by omega
 have d:=zH h;clear h;have a:Below w.heap.size w (w.alloc (.cells #[.int .i64 e,.slice A 4 c] 31)):=(Below.refl _ _).alloc (Nat.le_refl _) _;have f:=zH (rising4 A c _ (d.o.keep a));have b:=zH a;clear a;go_enter Tryz.func19,Tryz.ntmps19;go_wp2_with fail;refine f.o.mono ?_;rintro x w1 ⟨rfl,rfl⟩;go_wp2_with fail;go_ret;exact⟨rfl,b.o⟩
theorem index4 (x:Int) (A:Option Addr) (c:Nat) (w:World) (h:Mem w A c):Calls Tryz.prog 45 #[.slice A 4 c,.int .i64 x] w fun e w'=>e=.returned (.int .i64 (if 0≤x∧x<4 then x else -1))∧w=w':=by
 obtain⟨l,i,b,off,rfl,m,f⟩:=h;have g:=zH f;clear f;unfold maxLen at i;obtain⟨r,a⟩:=zN ((if 0≤x∧x<4 then x else -1));rw[←a];have d:=zH a;clear a;go_enter Tryz.func45,Tryz.ntmps45;go_wp2_with fail
 go_loop [5,8] (fun t j=>∃ k:Nat,k≤4∧j=.int .i64 k∧(x<0∨(k:Int)≤x)) (fun _ j=>4 - (intOf j).toNat)
 case atStart=>exact⟨0,by omega,rfl,by omega⟩
 case round=>
  obtain⟨k,n,rfl,p⟩:=hrel;by_cases hk4:k<4
  ·have n1:(k:Int)<4:=by omega
   have n0:(0:Int)≤(k:Int):=by omega
   have hc:=g.o k hk4;by_cases hxk:x=(k:Int)
   ·subst hxk;go_wp2_with fail;go_ret;refine⟨?_,rfl⟩;rw[d.o,if_pos (by omega)];rfl
   ·go_wp2_with fail
    go_round
    case rel=>exact⟨k+1,by omega,by go_num,by omega⟩
    case measure=>simp[intOf];omega
  ·obtain rfl:k=4:=by omega
   go_wp2_with fail;go_ret;refine⟨?_,rfl⟩;rw[d.o,if_neg (by omega)];rfl
theorem contains4 (x:Int) (A:Option Addr) (c:Nat) (w:World) (h:Mem w A c):Calls Tryz.prog 21 #[.slice A 4 c,.int .i64 x] w fun e w'=>e=.returned (.bool (decide (0≤x∧x<4)))∧w=w':=by
 have a:=zH (index4 x A c w h);clear h;by_cases hx:0≤x∧x<4
 ·rw[if_pos hx] at a;rw[decide_eq_true hx];have b:=hx.1;clear hx;go_enter Tryz.func21,Tryz.ntmps21;go_wp2_with fail;refine a.o.mono ?_;rintro e w1 ⟨rfl,rfl⟩;go_wp2_with fail;go_ret;exact⟨rfl,rfl⟩
 ·rw[if_neg hx] at a;rw[decide_eq_false hx];clear hx;go_enter Tryz.func21,Tryz.ntmps21;go_wp2_with fail;refine a.o.mono ?_;rintro e w1 ⟨rfl,rfl⟩;go_wp2_with fail;go_ret;exact⟨rfl,rfl⟩
theorem has4 (x:Int) (e:Int) (A:Option Addr) (c:Nat) (w:World) (h:Mem w A c):Calls Tryz.prog 198 #[.agg #[.int .i64 e,.slice A 4 c],.int .i64 x] w fun r w'=>r=.returned (.bool (decide (0≤x∧x<4)))∧Below w.heap.size w w':=by
 have a:Below w.heap.size w (w.alloc (.cells #[.int .i64 e,.slice A 4 c] 31)):=(Below.refl _ _).alloc (Nat.le_refl _) _;have b:=zH (contains4 x A c _ (h.keep a));have f:=zH a;clear a h;generalize decide (0≤x∧x<4)=d at b ⊢;go_enter Tryz.func198,Tryz.ntmps198;go_wp2_with fail;refine b.o.mono ?_;rintro r w1 ⟨rfl,rfl⟩;go_wp2_with fail;go_ret;exact⟨rfl,f.o⟩
theorem primary4 (v e:Nat) (u:e≤60) (A:Option Addr) (c:Nat) (w:World) (h:Mem w A c) (B:v≤1000):Calls Tryz.prog 270 #[.agg #[.int .i64 e,.slice A 4 c],.int .i64 v] w fun r w'=>r=.returned (.tuple #[.int .i64 ((v % 4:Nat):Int),.bool true])∧Below w.heap.size w w':=by
 have a:Below w.heap.size w (w.alloc (.cells #[.int .i64 e,.slice A 4 c] 31)):=(Below.refl _ _).alloc (Nat.le_refl _) _;have n:=zH (right4 e u A c _ (h.keep a));have k:=zH (h.keep a);have i:=zH a;have f:=heap_alloc_new w (.cells #[.int .i64 e,.slice A 4 c] 31);have s:w.heap.size<(w.alloc (.cells #[.int .i64 e,.slice A 4 c] 31)).heap.size:=by simp
 have v0:(0:Int)≤(v:Int):=by omega
 have v1:¬ (v:Int)<0:=by omega
 have p:zI ((v:Int).tmod 4=((v % 4:Nat):Int)):=zH (by rw[Int.tmod_eq_emod_of_nonneg (by omega)];omega);have v4:v % 4<4:=by omega
 clear a h;generalize x:v % 4=m at p v4 ⊢;clear x;go_enter Tryz.func270,Tryz.ntmps270;go_wp2_with fail;generalize w.alloc (.cells #[.int .i64 e,.slice A 4 c] 31)=w0 at n k i f s ⊢;refine n.o.mono ?_;rintro r w1 ⟨rfl,d⟩;have g:=(d.block _ s).trans f;have c0:=zR w1 w.heap.size 0 _ _ _ g;have c1:=zR w1 w.heap.size 1 _ _ _ g;simp at c0 c1;have l:=k.o.keep d;obtain⟨g,t,b,off,rfl,z,q⟩:=l;have hc:=q m v4;unfold maxLen at t;have j:=zH (zB i.o d);have m0:(m:Int)<4:=by omega
 have m1:(0:Int)≤(m:Int):=by omega
 have y:=p.o;have m2:(m:Int).toNat=m:=by omega
 clear d q f;go_wp2_with fail;go_quiet (fail)
 go_wp2_with fail;go_ret2;exact⟨rfl,hAc j.o nq⟩
abbrev Tags:=Nat→Nat
def DT (o:Tags) (A:Option Addr):Prop:=∀ ad,A=some ad→o ad.block=0
structure Fix (P:Nat→Prop) (o o':Tags) (w w':World):Prop where
 size:w.heap.size≤w'.heap.size
 block:∀ b,b<w.heap.size→P (o b)→o' b=o b∧w'.heap[b]?=w.heap[b]?
structure Chg (i:Nat) (o o':Tags) (w w':World):Prop where
 os:w'.os=w.os
 tape:w'.tape=w.tape
 output:w'.output=w.output
 size:w.heap.size≤w'.heap.size
 tags:∀ b,b<w.heap.size→o' b=o b
 block:∀ b,b<w.heap.size→o b≠i→w'.heap[b]?=w.heap[b]?
theorem Chg.refl (i:Nat) (o:Tags) (w:World):Chg i o o w w:=⟨rfl,rfl,rfl,Nat.le_refl _,fun _ _=>rfl,fun _ _ _=>rfl⟩
theorem Chg.trans {i:Nat} {o o1 o2:Tags} {w w1 w2:World} (h:Chg i o o1 w w1) (k:Chg i o1 o2 w1 w2):Chg i o o2 w w2:=
 ⟨k.os.trans h.os,k.tape.trans h.tape,k.output.trans h.output,Nat.le_trans h.size k.size,fun b a=>(k.tags b (Nat.lt_of_lt_of_le a h.size)).trans (h.tags b a),fun b a c=>(k.block b (Nat.lt_of_lt_of_le a h.size) (by rw[h.tags b a];exact c)).trans (h.block b a c)⟩
theorem Chg.below {i:Nat} {o o':Tags} {w w':World} (h:Below w.heap.size w w') (c:∀ b,b<w.heap.size→o' b=o b):Chg i o o' w w':=
 ⟨h.os,h.tape,h.output,h.size,c,fun b a _=>h.block b a⟩
theorem Chg.fix {i:Nat} {o o':Tags} {w w':World} (h:Chg i o o' w w') {P:Nat→Prop} (c:¬ P i):Fix P o o' w w':=
 ⟨h.size,fun b a d=>⟨h.tags b a,h.block b a (fun e=>c (e ▸ d))⟩⟩
theorem Fix.below {P:Nat→Prop} {o o':Tags} {w w':World} (h:Below w.heap.size w w') (c:∀ b,b<w.heap.size→o' b=o b):Fix P o o' w w':=
 ⟨h.size,fun b a _=>⟨c b a,h.block b a⟩⟩
theorem Fix.same {P:Nat→Prop} {o:Tags} {w w':World} (h:Below w.heap.size w w'):Fix P o o w w':=Fix.below h fun _ _=>rfl
theorem Fix.trans {P:Nat→Prop} {o o1 o2:Tags} {w w1 w2:World} (h:Fix P o o1 w w1) (k:Fix P o1 o2 w1 w2):Fix P o o2 w w2:=
 ⟨Nat.le_trans h.size k.size,fun b c d=>by
  obtain⟨a,e⟩:=h.block b c d;obtain⟨k1,k2⟩:=k.block b (Nat.lt_of_lt_of_le c h.size) (by rw[a];exact d);exact⟨k1.trans a,k2.trans e⟩⟩
theorem Fix.weak {P R:Nat→Prop} {o o':Tags} {w w':World} (h:Fix P o o' w w') (d:∀ t,R t→P t):Fix R o o' w w':=⟨h.size,fun b a c=>h.block b a (d _ c)⟩
theorem Fix.grown {P:Nat→Prop} {o:Tags} {w w':World} {row:Option Nat} (h:w.grownBy w' row) (d:∀ k,row=some k→k<w.heap.size→¬ P (o k)):Fix P o o w w':=
 ⟨h.size,fun b a c=>⟨rfl,h.block b a (fun e=>d b e.symm a c)⟩⟩
theorem Chg.grown {i:Nat} {o:Tags} {w w':World} {row:Option Nat} (h:w.grownBy w' row) (d:∀ k,row=some k→k<w.heap.size→o k=i):Chg i o o w w':=
 ⟨h.os,h.tape,h.output,h.size,fun _ _=>rfl,fun b a c=>h.block b a (fun e=>c (d b e.symm a))⟩
def Tags.ext (o:Tags) (n t:Nat):Tags:=fun b=>if b<n then o b else t
theorem Tags.ext_old (o:Tags) (n t:Nat):∀ b,b<n→(o.ext n t) b=o b:=fun b a=>if_pos a
theorem Tags.ext_new (o:Tags) (n t b:Nat) (a:n≤b):(o.ext n t) b=t:=if_neg (by omega)
theorem DT.none (o:Tags):DT o none:=fun _ h=>by cases h
def MemD (w:World) (o:Tags) (A:Option Addr) (c:Nat):Prop:=Mem w A c∧DT o A
theorem MemD.fix {P:Nat→Prop} {o o':Tags} {w w':World} {A:Option Addr} {c:Nat} (h:MemD w o A c) (f:Fix P o o' w w') (m:P 0):MemD w' o' A c:=by
 obtain⟨⟨i,j,b,off,d,g,l⟩,n⟩:=h;have a:o b=0:=n _ d;obtain⟨t1,t2⟩:=f.block b g (by rw[a];exact m);refine⟨⟨i,j,b,off,d,Nat.lt_of_lt_of_le g f.size,fun k p=>?_⟩,fun ad e=>?_⟩
 ·have:=l k p;unfold World.cell? at this ⊢;rw[t2];exact this
 ·rw[d] at e;cases e;rw[t1];exact a
def SlD {α:Type} (enc:α→List Value) (w:World) (o:Tags) (A:Option Addr) (n c:Nat) (l:List α):Prop:=
 l.length=n∧n≤c∧c≤maxLen∧(A=none→n=0∧c=0)∧∀ ad,A=some ad→∃ b off,ad=⟨b,off,none⟩∧b<w.heap.size∧o b=0∧∀ j u,(l.flatMap enc)[j]?=some u→w.cell? ⟨b,off+j,none⟩=some u
theorem SlD.fix {α:Type} {enc:α→List Value} {P:Nat→Prop} {o o':Tags} {w w':World} {A:Option Addr} {n c:Nat} {l:List α} (h:SlD enc w o A n c l) (f:Fix P o o' w w') (m:P 0):SlD enc w' o' A n c l:=by
 obtain⟨a,d,g,i,k⟩:=h;refine⟨a,d,g,i,fun ad e=>?_⟩;obtain⟨b,off,e1,e2,e3,e4⟩:=k ad e;obtain⟨t1,t2⟩:=f.block b e2 (by rw[e3];exact m);refine⟨b,off,e1,Nat.lt_of_lt_of_le e2 f.size,by rw[t1];exact e3,fun j u p=>?_⟩;have:=e4 j u p;unfold World.cell? at this ⊢;rw[t2];exact this
theorem SlD.nil {α:Type} (enc:α→List Value) (w:World) (o:Tags):SlD enc w o none 0 0 []:=
 ⟨rfl,Nat.le_refl _,Nat.zero_le _,fun _=>⟨rfl,rfl⟩,fun _ h=>by cases h⟩
theorem hL2 {α:Type} (enc:α→List Value) (k:Nat) (a:∀ x,(enc x).length=k) (d:α):∀ (l:List α) (i j:Nat),i<l.length→j<k→(l.flatMap enc)[i*k+j]?=(enc (l.getD i d))[j]?
 |[],i,j,hi,_=>by simp at hi
 |x::r,0,j,_,hj=>by
  rw[List.flatMap_cons,Nat.zero_mul,Nat.zero_add,List.getElem?_append_left (by rw[a];exact hj)];rfl
 |x::r,i+1,j,hi,hj=>by
  have b:(i+1)*k=i*k+k:=Nat.succ_mul i k;rw[List.flatMap_cons,List.getElem?_append_right (by rw[a];omega),a,show(i+1)*k+j - k=i*k+j by omega];rw[hL2 enc k a d r i j (by simpa using hi) hj];rfl
theorem SlD.at {α:Type} {enc:α→List Value} {w:World} {o:Tags} {A:Option Addr} {n c:Nat} {l:List α} (h:SlD enc w o A n c l) (k:Nat) (g:∀ x,(enc x).length=k) (d:α) (p:0<n) :
  ∃ b off,A=some ⟨b,off,none⟩∧b<w.heap.size∧o b=0∧∀ i j u,i<n→j<k→(enc (l.getD i d))[j]?=some u→w.cell? ⟨b,off+(i*k+j),none⟩=some u:=by
 obtain⟨q,r,s,a,e⟩:=h;cases hA:A with
 |none=>have:=(a hA).1;omega
 |some ad=>
  obtain⟨b,off,e1,e2,e3,e4⟩:=e ad hA;exact⟨b,off,by rw[e1],e2,e3,fun i j u hi f m=>e4 _ u (by rw[hL2 enc k g d l i j (by omega) f];exact m)⟩
theorem SlD.of_own {α:Type} {enc:α→List Value} {w:World} {base n:Nat} {e:TypeId} {sz:Nat} {A:Option Addr} {c:Nat} {l:List α} (h:w.ownsRow base e sz (.slice A n c) n (l.flatMap enc)) (d:l.length=n) (o:Tags) (r:∀ b,base≤b→b<w.heap.size→o b=0):SlD enc w o A n c l:=by
 rcases h.2 with⟨f,v⟩ | ⟨g,cap,cur,s,i,k,q,p,t,x⟩
 ·injection f with e1 e2 e3;subst e1;subst e2;subst e3;exact⟨d,Nat.le_refl _,Nat.zero_le _,fun _=>⟨rfl,rfl⟩,fun _ h=>by cases h⟩
 ·injection s with e1 _ e3;subst e1;subst e3;have a:=(zL k);refine⟨d,q,p,(fun h=>by cases h),fun ad e=>?_⟩;cases e;refine⟨g,0,rfl,a,r g i a,fun j u m=>?_⟩;have:=World.ownsRow.cells h (g:=g) rfl j u m;rw[hAl] at this;exact this
def encS (s:St):List Value:=[.int .i64 s.1,.string s.2]
theorem hBf (s:St):(encS s).length=2:=rfl
def sgl (bys:List Nat) (t:ByteArray):List St:=bys.map fun(b:Nat)=>((b:Int),t)
theorem hNs (bys:List Nat) (t:ByteArray) (i:Nat) (hi:i<bys.length):(sgl bys t).getD i (0,ByteArray.empty)=(((bys.getD i 0:Nat):Int),t):=by
 unfold sgl;rw[List.getD_eq_getElem?_getD,List.getElem?_map,List.getD_eq_getElem?_getD,List.getElem?_eq_getElem hi];rfl
structure Qu (bys:List Nat):Prop where
 three:3≤bys.length
 four:bys.length≤4
 lt:∀ i,i<bys.length→bys.getD i 0<4
 up:∀ i,i+1<bys.length→bys.getD i 0<bys.getD (i+1) 0
def canonB (b:Nat):Bool:=FloatKind.f64.format.order b b != some .eq
def oneNaN:Nat:=9221120237041090560
def canon (b:Nat):Nat:=if canonB b then oneNaN else b
theorem hHf (n:Nat) (w:World):(callFunc 147 #[.float .f64 n]).run Tryz.prog w=.ok (.value (.int .u64 (n:Int))) w:=by
 rw[run_callFunc_extern Tryz.func147 (by kernel_rfl) (by kernel_rfl) (by kernel_rfl) (e:=Extern.MathFloatBits.float64bits) (by kernel_rfl)];rfl
theorem hEp (n:Int) (w:World):(callFunc 24 #[.int .u64 n]).run Tryz.prog w=.ok (.value (.float .f64 n.toNat)) w:=by
 rw[run_callFunc_extern Tryz.func24 (by kernel_rfl) (by kernel_rfl) (by kernel_rfl) (e:=Extern.MathFloatBits.float64frombits) (by kernel_rfl)];rfl
theorem hDh (b:Nat) (w:World):Calls Tryz.prog 148 #[.float .f64 b] w fun e w'=>e=.returned (.float .f64 (canon b))∧w=w':=by
 have a:=hEp;cases h:canonB b with
 |true=>
  have e:canon b=oneNaN:=by unfold canon;rw[h];rfl
  rw[e];have c:=zH e;unfold canonB at h;clear e;go_enter Tryz.func148,Tryz.ntmps148;go_wp2_with fail;go_ret;exact⟨rfl,rfl⟩
 |false=>
  have e:canon b=b:=by unfold canon;rw[h];rfl
  rw[e];unfold canonB at h;clear e a;go_enter Tryz.func148,Tryz.ntmps148;go_wp2_with fail;go_ret;exact⟨rfl,rfl⟩
theorem hD8 (b:Nat) (w:World):Calls Tryz.prog 120 #[.float .f64 b] w fun e w'=>e=.returned (.int .u64 ((canon b:Nat):Int))∧w=w':=by
 have a:=zH (hDh b w);have c:=hHf;generalize canon b=n at a ⊢;go_enter Tryz.func120,Tryz.ntmps120;go_wp2_with fail;refine a.o.mono ?_;rintro e w1 ⟨rfl,rfl⟩;go_wp2_with fail;go_ret;exact⟨rfl,rfl⟩
end Go.Proofs.YtlibpcllceepkaaGreat
namespace Go.Proofs.YtlibpcllceepkaaGreat
open Go.RowKit
set_option maxRecDepth 100000
set_option maxRecDepth 100000
set_option linter.unusedVariables false
set_option linter.unusedSimpArgs false
set_option maxHeartbeats 16000000
def PkAt (w:World) (b:Nat) (L:List UInt8) (room:Nat):Prop:=∃ v,w.heap[b]?=some (.cells #[v,.int .i64 room,.int .i64 0] 246 (0,0))∧OwnB w (b+1) v L
theorem PkAt.lt {w:World} {b:Nat} {L:List UInt8} {room:Nat} (h:PkAt w b L room):b<w.heap.size:=by
 obtain⟨v,h,_⟩:=h;exact(zL h)
theorem PkAt.keep {w w':World} {b:Nat} {L:List UInt8} {room:Nat} (h:PkAt w b L room) (a:Below w.heap.size w w'):PkAt w' b L room:=by
 have e:=h.lt;obtain⟨v,c,d⟩:=h;exact⟨v,(a.block b e).trans c,d.keep a⟩
def Apart (w w':World) (b room:Nat):Prop:=∀ X,X<w.heap.size→X≠b→(∀ v,w.heap[b]?=some (.cells #[v,.int .i64 room,.int .i64 0] 246 (0,0))→v.ownBlock≠some X)→w'.heap[X]?=w.heap[X]?
theorem PkAt.apart {w w5:World} {b:Nat} {L:List UInt8} {room X:Nat} (h:PkAt w b L room) (f:Below w.heap.size w w5) (j:w.heap.size≤X):∀ v,w5.heap[b]?=some (.cells #[v,.int .i64 room,.int .i64 0] 246 (0,0))→v.ownBlock≠some X:=by
 intro v i e;have g:=h.lt;obtain⟨v0,c,d⟩:=h;have a:=(f.block b g).symm.trans i;rw[c] at a;simp at a;subst a;have:=(World.ownsRow.lt d X e).2;omega
theorem Apart.pre {w w1 w':World} {b room:Nat} (a:Below w.heap.size w w1) (f:b<w.heap.size) (h:Apart w1 w' b room):Apart w w' b room:=by
 intro X c d g;exact(h X (Nat.lt_of_lt_of_le c a.size) d (fun v e=>g v ((a.block b f).symm.trans e))).trans (a.block X c)
theorem hEz (lim:Nat) (a:0<lim) (w:World):Calls Tryz.prog 86 #[.int .i64 lim] w fun e w'=>e=.returned (.pointer (some ⟨w.heap.size,0,none⟩))∧PkAt w' w.heap.size [] lim∧Below w.heap.size w w':=by
 have b:(0:Int)<(lim:Int):=by omega
 clear a;go_enter Tryz.func86,Tryz.ntmps86;go_wp2_with fail;go_ret;exact⟨rfl,⟨_,heap_alloc_new w _,World.ownsRow_nil _ _ _ _⟩,(Below.refl _ _).alloc (Nat.le_refl _) _⟩
theorem hKd (b:Nat) (L X:List UInt8) (room:Nat) (U:L.length+room≤1099511627776) (Y:X.length≤room) (g c:Nat) (w:World) (r:∀ j u,(Lib.byteCells X)[j]?=some u→w.cell? ((⟨g,0,none⟩:Addr).add j)=some u) (h:PkAt w b L room) :
  Calls Tryz.prog 118 #[.pointer (some ⟨b,0,none⟩),.slice (some ⟨g,0,none⟩) X.length c] w fun e w'=>e=.returned (.tuple #[])∧PkAt w' b (L++X) (room - X.length)∧Below b w w'∧Apart w w' b room:=by
 obtain⟨i0,s,t,x,y⟩:=info_parts hJ5;have I:=zH s;have J:=zH t;have K:=zH x;have M:=zH y;clear s t x y;have F:=zH h.lt;have E:=zH r;obtain⟨v,i,n⟩:=h;obtain⟨VA,VC,rfl⟩:=hAk n;have c0:=zR w b 0 _ _ _ i;have c1:=zR w b 1 _ _ _ i;have f0:=frozen_of_row w b 0 _ _ i;have f1:=frozen_of_row w b 1 _ _ i;simp at c0 c1;have C:=zH i;have D:=zH n;have f:=n;unfold OwnB at f;have R:b+1≤w.heap.size:=F.o;have q1:IntKind.i64.wrap ((room:Int) - (X.length:Int))=(room:Int) - (X.length:Int):=by rw[IntKind.wrap_i64];omega
 have q2:(X.length:Int)≤(room:Int):=by omega
 have H:zI (∀ w2,w.grownBy w2 (Value.slice VA L.length VC).ownBlock→w2.heap[b]?=some (.cells #[.slice VA L.length VC,.int .i64 room,.int .i64 0] 246 (0,0))):=zH (fun w2 T=>(T.block b R (fun e=>by have:=(World.ownsRow.lt D.o b e.symm).1;omega)).trans C.o);clear i n r;go_enter Tryz.func118,Tryz.ntmps118;go_wp2_with (at_builtin;go_must (refine wpList_append_own _ rfl (.tmp 17) (.tmp 18) 244 rfl (b+1) 5 i0 _ 1 1 Tryz.underlying244 I.o J.o K.o M.o (by rfl) (by decide) _ _ _ (by rfl) f ⟨g,0,none⟩ X.length c (Lib.byteCells X) (by rfl) (by rw[Lib.byteCells_length,Nat.mul_one]) E.o (hKy X) (by unfold maxLen;omega) (by omega) R ?_);go_must (intro v2 w2 d a _);obtain⟨VA2,VC2,rfl⟩:=hAk d;have R2:=zH (H.o w2 a);have l:=zH a;have G:=zH d;clear d a f c0 c1 f0 f1;have c0:=zR w2 b 0 _ _ _ R2.o;have c1:=zR w2 b 1 _ _ _ R2.o;have f0:=frozen_of_row w2 b 0 _ _ R2.o;have f1:=frozen_of_row w2 b 1 _ _ R2.o;simp at c0 c1);refine bodyPost_end (results_none rfl _ _ _) rfl ?_;obtain⟨P,m⟩:((w2.setCell ⟨b,0,none⟩ (.slice VA2 (L.length+X.length) VC2)).setCell ⟨b,1,none⟩ (.int .i64 ((room:Int) - (X.length:Int)))).heap[b]?=some (.cells #[.slice VA2 (L.length+X.length) VC2,.int .i64 ((room:Int) - (X.length:Int)),.int .i64 0] 246 (0,0))∧w2.grownBy ((w2.setCell ⟨b,0,none⟩ (.slice VA2 (L.length+X.length) VC2)).setCell ⟨b,1,none⟩ (.int .i64 ((room:Int) - (X.length:Int)))) (some b):=
  ⟨(heap_setCell_same _ b 1 _ _ _ (heap_setCell_same w2 b 0 _ _ _ R2.o)).trans (by rfl),hAb (hAb (hAa (Below.refl _ _) _) (p:=⟨b,0,none⟩) (.inl rfl) _) (p:=⟨b,1,none⟩) (.inl rfl) _⟩
 have V:OwnB w2 (b+1) (.slice VA2 (L.length+X.length) VC2) (L++X):=by
  unfold OwnB;rw[List.length_append,Lib.byteCells_append];exact G.o
 have q:Below b w w2:=hJz (by omega) l.o (fun k z=>by have:=(World.ownsRow.lt D.o k z).1;omega);have N:=hJz (by have:=q.size;omega) m (B:=b) (fun k z=>by cases z;exact Nat.le_refl _);refine⟨rfl,⟨_,by rw[show((room - X.length:Nat):Int)=(room:Int) - (X.length:Int) by omega];exact P,hTq V (by omega) m⟩,q.trans N,fun X S O W=>?_⟩;have Q:=l.o.block X S (fun e=>W _ C.o e.symm);exact(m.block X (by have:=l.o.size;omega) (fun e=>O (Option.some.inj e))).trans Q
theorem hI3 (b:Nat) (L X:List UInt8) (room:Nat) (d:X≠[]) (a:L.length+room≤1099511627776) (j:X.length≤room) (base:Nat) (xv:Value) (w:World) (i:OwnB w base xv X) (h:PkAt w b L room) :
  Calls Tryz.prog 118 #[.pointer (some ⟨b,0,none⟩),xv] w fun e w'=>e=.returned (.tuple #[])∧PkAt w' b (L++X) (room - X.length)∧Below b w w'∧Apart w w' b room:=by
 obtain⟨g,c,rfl,k,l,f⟩:=i.form d;exact hKd b L X room a j g c w f h
theorem hA5 (b:Nat) (L:List UInt8) (room n:Nat) (j:n<256) (c:L.length+room≤1099511627776) (l:1≤room) (w:World) (h:PkAt w b L room) :
  Calls Tryz.prog 87 #[.pointer (some ⟨b,0,none⟩),.int .i64 n] w fun e w'=>e=.returned (.tuple #[])∧PkAt w' b (L++beL 1 n) (room - 1)∧Below b w w'∧Apart w w' b room:=by
 have d:=zH h.lt;have m:=fun(w':World) (xv:Value) (base:Nat) (t:OwnB w' base xv (beL 1 n)) (s:Below w.heap.size w w')=>zH (hI3 b L (beL 1 n) room (by unfold beL;simp) c (by simpa[beL] using l) base xv w' t (h.keep s));obtain⟨v,f,r⟩:=h;have c2:=zR w b 2 _ _ _ f;simp at c2;have n0:0≤(n:Int):=by omega
 have n1:(n:Int)≤255:=by omega
 have q:IntKind.u8.wrap (n:Int)=(n:Int):=by rw[IntKind.wrap_u8];omega
 have p:=zH j;clear f r c l j;go_enter Tryz.func87,Tryz.ntmps87;go_wp2_with fail;have a:Below w.heap.size w (w.alloc (.cells #[.int .u8 (n:Int)] 5)):=(Below.refl _ _).alloc (Nat.le_refl _) _;have k:OwnB (w.alloc (.cells #[.int .u8 (n:Int)] 5)) w.heap.size (.slice (some ⟨w.heap.size,0,none⟩) 1 1) (beL 1 n):=by
  have:=hEl w #[Value.int .u8 (n:Int)] 5 1 1 w.heap.size (Nat.le_refl _) rfl (by omega) (by decide);have e1:Lib.byteCells (beL 1 n)=[Value.int .u8 (n:Int)]:=by
   rw[←hEt n p.o];rfl
  unfold OwnB;rw[e1];exact this
 refine(m _ _ _ k a).o.mono ?_;rintro e w2 ⟨rfl,u,i,g⟩;go_wp2_with fail;go_end0;exact⟨rfl,u,(a.mono (Nat.le_of_lt d.o)).trans i,Apart.pre a d.o g⟩
theorem hMx (b:Nat) (L:List UInt8) (room:Nat) (s:ByteArray) (I:s.size≤65535) (i:L.length+room≤1099511627776) (J:2+s.size≤room) (w:World) (h:PkAt w b L room) :
  Calls Tryz.prog 91 #[.pointer (some ⟨b,0,none⟩),.string s] w fun e w'=>e=.returned (.tuple #[])∧PkAt w' b (L++(beL 2 s.size++s.data.toList)) (room - (2+s.size))∧Below b w w'∧Apart w w' b room:=by
 obtain⟨i0,n,p,a,q⟩:=info_parts hJ5;have B:=zH n;have C:=zH p;have D:=zH a;have E:=zH q;clear n p a q;have k:s.data.toList.length=s.size:=Array.length_toList;have y:=zH h.lt;have j:(beL 2 s.size++s.data.toList).length=2+s.size:=by rw[List.length_append,k];rfl
 have r:=fun(w':World) (xv:Value) (base:Nat) (l:OwnB w' base xv (beL 2 s.size++s.data.toList)) (M:Below w.heap.size w w')=>zH (hI3 b L (beL 2 s.size++s.data.toList) room (by unfold beL;simp) i (by rw[j];exact J) base xv w' l (h.keep M));rw[j] at r;obtain⟨v,F,K⟩:=h;have c2:=zR w b 2 _ _ _ F;simp at c2;have P:(s.size:Int)≤65535:=by omega
 have q1:IntKind.u8.wrap ((s.size:Int) / 256)=(s.size:Int) / 256:=by rw[IntKind.wrap_u8];omega
 have q2:IntKind.u8.wrap (s.size:Int)=(s.size:Int) % 256:=by rw[IntKind.wrap_u8]
 have z:=zH k;have x:=zH I;clear F K i J k j I;have g:Below w.heap.size w (w.alloc (.cells #[.int .u8 ((s.size:Int) / 256),.int .u8 ((s.size:Int) % 256)] 5)):=(Below.refl _ _).alloc (Nat.le_refl _) _;have a:w.heap.size≤(w.alloc (.cells #[.int .u8 ((s.size:Int) / 256),.int .u8 ((s.size:Int) % 256)] 5)).heap.size:=g.size;have l:(w.alloc (.cells #[.int .u8 ((s.size:Int) / 256),.int .u8 ((s.size:Int) % 256)] 5)).ownsRow w.heap.size 5 1 (.slice (some ⟨w.heap.size,0,none⟩) 2 2) 2 (Lib.byteCells (beL 2 s.size)):=by
  have:=hEl w #[.int .u8 ((s.size:Int) / 256),.int .u8 ((s.size:Int) % 256)] 5 2 2 w.heap.size (Nat.le_refl _) rfl (by omega) (by decide);have t1:((UInt8.ofNat (s.size / 256)).toNat:Int)=(s.size:Int) / 256:=by rw[hEt _ (by have:=x.o;omega)];omega
  have t2:((UInt8.ofNat (s.size % 256)).toNat:Int)=(s.size:Int) % 256:=by rw[hEt _ (by omega)];omega
  have e1:Lib.byteCells (beL 2 s.size)=[Value.int .u8 ((s.size:Int) / 256),Value.int .u8 ((s.size:Int) % 256)]:=by
   rw[←t1,←t2];rfl
  rw[e1];exact this
 have u:=zH g;clear g;go_enter Tryz.func91,Tryz.ntmps91;go_wp2_with (at_builtin;go_must (refine Lib.wpList_append_own_string _ rfl (.tmp 26) (.tmp 27) 244 9 rfl w.heap.size 5 i0 Tryz.underlying244 Tryz.underlying9 B.o C.o D.o E.o _ _ _ (by rfl) l s (by rfl) (by unfold maxLen;omega) (by omega) a ?_);go_must (intro v2 w2 d c _));have f:Below w.heap.size w w2:=u.o.grown c a (fun kk N=>by have:=(World.ownsRow.lt l kk N).1;omega);have H:OwnB w2 w.heap.size v2 (beL 2 s.size++s.data.toList):=by
  unfold OwnB;rw[List.length_append,z.o,Lib.byteCells_append];exact d
 clear d c l;refine(r w2 v2 w.heap.size H f).o.mono ?_;rintro e w3 ⟨rfl,O,G,m⟩;have t:=zH (Apart.pre f y.o m);clear m;go_wp2_with fail;go_end0;exact⟨rfl,O,(f.mono (Nat.le_of_lt y.o)).trans G,t.o⟩
theorem hPr (b:Nat) (L:List UInt8) (room:Nat) (s:ByteArray) (g:s.size≤65535) (a:L.length+room≤1099511627776) (i:2+s.size≤room) (w:World) (h:PkAt w b L room) :
  Calls Tryz.prog 91 #[.pointer (some ⟨b,0,none⟩),.string s] w fun e w'=>e=.returned (.tuple #[])∧PkAt w' b (L++(beL 2 s.size++s.data.toList)) (room - (2+s.size))∧Below b w w':=
 (hMx b L room s g a i w h).mono fun e w' ⟨c,d,f,_⟩=>⟨c,d,f⟩
theorem hD6 (b:Nat) (L:List UInt8) (room:Nat) (w:World) (h:PkAt w b L room) :
  Calls Tryz.prog 95 #[.pointer (some ⟨b,0,none⟩)] w fun e w'=>e=.returned (.tuple #[.string (bs L),.int .i64 0])∧w=w':=by
 obtain⟨v,a,c⟩:=h;obtain⟨VA,VC,rfl⟩:=hAk c;have c0:=zR w b 0 _ _ _ a;have c2:=zR w b 2 _ _ _ a;simp at c0 c2;have d:=hRe (P:=Tryz.prog) 244 9 5 Tryz.underlying244 Tryz.underlying5 Tryz.underlying9 c;clear a c;go_enter Tryz.func95,Tryz.ntmps95;go_wp2_with fail;go_ret2;exact⟨rfl,rfl⟩
end Go.Proofs.YtlibpcllceepkaaGreat
namespace Go.Proofs.YtlibpcllceepkaaGreat
open Go.RowKit
set_option maxRecDepth 100000
set_option linter.unusedVariables false
set_option linter.unusedSimpArgs false
set_option maxHeartbeats 16000000
def be4 (n:Nat):List UInt8:=[UInt8.ofNat (n / 16777216),UInt8.ofNat (n / 65536),UInt8.ofNat (n / 256),UInt8.ofNat n]
def be8 (n:Nat):List UInt8:=(List.range 8).map fun k=>UInt8.ofNat (n / 2 ^ (56 - 8*k))
theorem hB0 (n:Nat):IntKind.u8.wrap (n:Int)=((UInt8.ofNat n).toNat:Int):=by rw[IntKind.wrap_u8,UInt8.toNat_ofNat'];omega
theorem hMy (b:Nat) (L:List UInt8) (room n:Nat) (r:n<65536) (c:L.length+room≤1099511627776) (t:2≤room) (w:World) (h:PkAt w b L room) :
  Calls Tryz.prog 88 #[.pointer (some ⟨b,0,none⟩),.int .i64 n] w fun e w'=>e=.returned (.tuple #[])∧PkAt w' b (L++beL 2 n) (room - 2)∧Below b w w'∧Apart w w' b room:=by
 have l:=zH h.lt;have u:=fun(w':World) (xv:Value) (base:Nat) (C:OwnB w' base xv (beL 2 n)) (B:Below w.heap.size w w')=>zH (hI3 b L (beL 2 n) room (by unfold beL;simp) c (by simpa[beL] using t) base xv w' C (h.keep B));obtain⟨v,p,z⟩:=h;have c2:=zR w b 2 _ _ _ p;simp at c2;have n0:0≤(n:Int):=by omega
 have n1:(n:Int)≤65535:=by omega
 have q0:IntKind.u8.wrap ((n:Int) / 256)=(n:Int) / 256:=by rw[IntKind.wrap_u8];omega
 have q:IntKind.u8.wrap (n:Int)=(n:Int) % 256:=by rw[IntKind.wrap_u8]
 have x:=zH r;clear p z c t r;have g:Below w.heap.size w (w.alloc (.cells #[.int .u8 ((n:Int) / 256),.int .u8 ((n:Int) % 256)] 5)):=(Below.refl _ _).alloc (Nat.le_refl _) _;have i:OwnB (w.alloc (.cells #[.int .u8 ((n:Int) / 256),.int .u8 ((n:Int) % 256)] 5)) w.heap.size (.slice (some ⟨w.heap.size,0,none⟩) 2 2) (beL 2 n):=by
  have:=hEl w #[.int .u8 ((n:Int) / 256),.int .u8 ((n:Int) % 256)] 5 2 2 w.heap.size (Nat.le_refl _) rfl (by omega) (by decide);have t1:((UInt8.ofNat (n / 256)).toNat:Int)=(n:Int) / 256:=by rw[hEt _ (by have:=x.o;omega)];omega
  have t2:((UInt8.ofNat (n % 256)).toNat:Int)=(n:Int) % 256:=by rw[hEt _ (by omega)];omega
  have e1:Lib.byteCells (beL 2 n)=[Value.int .u8 ((n:Int) / 256),Value.int .u8 ((n:Int) % 256)]:=by
   rw[←t1,←t2];rfl
  unfold OwnB;rw[e1];exact this
 have a:=zH g;have m:=zH i;clear g i;go_enter Tryz.func88,Tryz.ntmps88;go_wp2_with fail;refine(u _ _ _ m.o a.o).o.mono ?_;rintro e w2 ⟨rfl,s,f,d⟩;have j:=zH (Apart.pre a.o l.o d);clear d;have y:=zH s;have k:=zH f;clear s f;go_wp2_with fail;go_end0;exact⟨rfl,y.o,(a.o.mono (Nat.le_of_lt l.o)).trans k.o,j.o⟩
theorem hJp (b:Nat) (L:List UInt8) (room n:Nat) (g:n<65536) (a:L.length+room≤1099511627776) (i:2≤room) (w:World) (h:PkAt w b L room) :
  Calls Tryz.prog 88 #[.pointer (some ⟨b,0,none⟩),.int .i64 n] w fun e w'=>e=.returned (.tuple #[])∧PkAt w' b (L++beL 2 n) (room - 2)∧Below b w w':=
 (hMy b L room n g a i w h).mono fun e w' ⟨c,d,f,_⟩=>⟨c,d,f⟩
theorem hMv (b:Nat) (L:List UInt8) (room n:Nat) (E:n<4294967296) (c:L.length+room≤1099511627776) (y:4≤room) (w:World) (h:PkAt w b L room) :
  Calls Tryz.prog 141 #[.pointer (some ⟨b,0,none⟩),.int .i64 n] w fun e w'=>e=.returned (.tuple #[])∧PkAt w' b (L++be4 n) (room - 4)∧Below b w w'∧Apart w w' b room:=by
 have r:=zH h.lt;have z:=fun(w':World) (xv:Value) (base:Nat) (F:OwnB w' base xv (be4 n)) (D:Below w.heap.size w w')=>zH (hI3 b L (be4 n) room (by unfold be4;simp) c (by simpa[be4] using y) base xv w' F (h.keep D));obtain⟨v,t,C⟩:=h;have c2:=zR w b 2 _ _ _ t;simp at c2;have n0:0≤(n:Int):=by omega
 have n1:(n:Int)≤4294967295:=by omega
 obtain⟨x0,d⟩:∃ x,x=((UInt8.ofNat (n / 16777216)).toNat:Int):=⟨_,rfl⟩;obtain⟨x1,f⟩:∃ x,x=((UInt8.ofNat (n / 65536)).toNat:Int):=⟨_,rfl⟩;obtain⟨x2,g⟩:∃ x,x=((UInt8.ofNat (n / 256)).toNat:Int):=⟨_,rfl⟩;obtain⟨x3,i⟩:∃ x,x=((UInt8.ofNat n).toNat:Int):=⟨_,rfl⟩;have q0:IntKind.u8.wrap ((n:Int) / 16777216)=x0:=by rw[d,←hB0];rfl
 have q1:IntKind.u8.wrap ((n:Int) / 65536)=x1:=by rw[f,←hB0];rfl
 have q2:IntKind.u8.wrap ((n:Int) / 256)=x2:=by rw[g,←hB0];rfl
 have q3:IntKind.u8.wrap (n:Int)=x3:=by rw[i,←hB0]
 have l:Below w.heap.size w (w.alloc (.cells #[.int .u8 x0,.int .u8 x1,.int .u8 x2,.int .u8 x3] 5)):=(Below.refl _ _).alloc (Nat.le_refl _) _;have m:OwnB (w.alloc (.cells #[.int .u8 x0,.int .u8 x1,.int .u8 x2,.int .u8 x3] 5)) w.heap.size (.slice (some ⟨w.heap.size,0,none⟩) 4 4) (be4 n):=by
  have:=hEl w #[.int .u8 x0,.int .u8 x1,.int .u8 x2,.int .u8 x3] 5 4 4 w.heap.size (Nat.le_refl _) rfl (by omega) (by decide);have e1:Lib.byteCells (be4 n)=[Value.int .u8 x0,.int .u8 x1,.int .u8 x2,.int .u8 x3]:=by
   rw[d,f,g,i];rfl
  unfold OwnB;rw[e1];exact this
 have a:=zH l;have s:=zH m;clear l m t C c y E d f g i;go_enter Tryz.func141,Tryz.ntmps141;go_wp2_with fail;refine(z _ _ _ s.o a.o).o.mono ?_;rintro e w2 ⟨rfl,u,k,j⟩;have p:=zH (Apart.pre a.o r.o j);clear j;have B:=zH u;have q:=zH k;clear u k;go_wp2_with fail;go_end0;exact⟨rfl,B.o,(a.o.mono (Nat.le_of_lt r.o)).trans q.o,p.o⟩
theorem hJo (b:Nat) (L:List UInt8) (room n:Nat) (g:n<4294967296) (a:L.length+room≤1099511627776) (i:4≤room) (w:World) (h:PkAt w b L room) :
  Calls Tryz.prog 141 #[.pointer (some ⟨b,0,none⟩),.int .i64 n] w fun e w'=>e=.returned (.tuple #[])∧PkAt w' b (L++be4 n) (room - 4)∧Below b w w':=
 (hMv b L room n g a i w h).mono fun e w' ⟨c,d,f,_⟩=>⟨c,d,f⟩
def bitCells (x0 x1 x2 x3 x4 x5 x6 x7:Int) (k:Nat):Array Value:=#[.int .u8 (if 0<k then x0 else 0),.int .u8 (if 1<k then x1 else 0),.int .u8 (if 2<k then x2 else 0),.int .u8 (if 3<k then x3 else 0),.int .u8 (if 4<k then x4 else 0),.int .u8 (if 5<k then x5 else 0),.int .u8 (if 6<k then x6 else 0),.int .u8 (if 7<k then x7 else 0)]
theorem hOi (n:Nat):(bitCells ((UInt8.ofNat (n / 72057594037927936)).toNat:Int) ((UInt8.ofNat (n / 281474976710656)).toNat:Int) ((UInt8.ofNat (n / 1099511627776)).toNat:Int) ((UInt8.ofNat (n / 4294967296)).toNat:Int) ((UInt8.ofNat (n / 16777216)).toNat:Int) ((UInt8.ofNat (n / 65536)).toNat:Int) ((UInt8.ofNat (n / 256)).toNat:Int) ((UInt8.ofNat n).toNat:Int) 8).toList=Lib.byteCells (be8 n):=by
 simp[bitCells,be8,Lib.byteCells,List.range,List.range.loop]
theorem hMu (b:Nat) (L:List UInt8) (room n:Nat) (f:L.length+room≤1099511627776) (H:8≤room) (w:World) (h:PkAt w b L room) :
  Calls Tryz.prog 119 #[.pointer (some ⟨b,0,none⟩),.int .u64 (n:Int)] w fun e w'=>e=.returned (.tuple #[])∧PkAt w' b (L++be8 n) (room - 8)∧Below b w w'∧Apart w w' b room:=by
 have E:=zH h.lt;obtain⟨x0,g⟩:∃ x,x=((UInt8.ofNat (n / 72057594037927936)).toNat:Int):=⟨_,rfl⟩;obtain⟨x1,i⟩:∃ x,x=((UInt8.ofNat (n / 281474976710656)).toNat:Int):=⟨_,rfl⟩;obtain⟨x2,l⟩:∃ x,x=((UInt8.ofNat (n / 1099511627776)).toNat:Int):=⟨_,rfl⟩;obtain⟨x3,m⟩:∃ x,x=((UInt8.ofNat (n / 4294967296)).toNat:Int):=⟨_,rfl⟩;obtain⟨x4,q⟩:∃ x,x=((UInt8.ofNat (n / 16777216)).toNat:Int):=⟨_,rfl⟩;obtain⟨x5,r⟩:∃ x,x=((UInt8.ofNat (n / 65536)).toNat:Int):=⟨_,rfl⟩;obtain⟨x6,s⟩:∃ x,x=((UInt8.ofNat (n / 256)).toNat:Int):=⟨_,rfl⟩;obtain⟨x7,t⟩:∃ x,x=((UInt8.ofNat n).toNat:Int):=⟨_,rfl⟩;have q0:(n:Int) / 72057594037927936 % 256=x0:=by rw[g,←hB0,IntKind.wrap_u8];rfl
 have q1:(n:Int) / 281474976710656 % 256=x1:=by rw[i,←hB0,IntKind.wrap_u8];rfl
 have q2:(n:Int) / 1099511627776 % 256=x2:=by rw[l,←hB0,IntKind.wrap_u8];rfl
 have q3:(n:Int) / 4294967296 % 256=x3:=by rw[m,←hB0,IntKind.wrap_u8];rfl
 have q4:(n:Int) / 16777216 % 256=x4:=by rw[q,←hB0,IntKind.wrap_u8];rfl
 have q5:(n:Int) / 65536 % 256=x5:=by rw[r,←hB0,IntKind.wrap_u8];rfl
 have q6:(n:Int) / 256 % 256=x6:=by rw[s,←hB0,IntKind.wrap_u8];rfl
 have q7:(n:Int) % 256=x7:=by rw[t,←hB0,IntKind.wrap_u8]
 have d:=hOi n;rw[←g,←i,←l,←m,←q,←r,←s,←t] at d;have I:=zH (fun(w':World) (c:Below w.heap.size w w') (M:w'.heap[w.heap.size]?=some (.cells (bitCells x0 x1 x2 x3 x4 x5 x6 x7 8) 269 (0,0)))=>hKd b L (be8 n) room f (by simpa[be8] using H) w.heap.size 8 w' (fun j u B=>by
  rw[←d] at B;rw[hAl,Nat.zero_add];exact zR w' w.heap.size j _ _ _ M |>.trans (by rw[Array.getElem?_toList] at B;exact B)) (h.keep c))
 obtain⟨v,F,K⟩:=h;have c2:=zR w b 2 _ _ _ F;simp at c2;have n0:0≤(n:Int):=by omega
 clear F K f H d g i l m q r s t;go_enter Tryz.func119,Tryz.ntmps119;go_wp2_with fail;go_loopw [5,15] (fun _ j wr=>∃ k:Nat,k≤8∧j=.int .i64 k∧zI (wr.heap[w.heap.size]?=some (.cells (bitCells x0 x1 x2 x3 x4 x5 x6 x7 k) 269 (0,0)))∧zI (Below w.heap.size w wr)) (fun _ j _=>8 - (intOf j).toNat)
 case atStart=>exact⟨0,by omega,rfl,zH (heap_alloc_new w _),zH ((Below.refl _ _).alloc (Nat.le_refl _) _)⟩
 case round=>
  obtain⟨k,N,rfl,a,c⟩:=hrel;by_cases hk8:k=8
  ·subst hk8;clear q0 q1 q2 q3 q4 q5 q6 q7;go_wp2_with fail;refine(I.o wr c.o a.o).mono ?_;rintro e w2 ⟨rfl,G,z,y⟩;have C:=zH (Apart.pre c.o E.o y);clear y;have J:=zH G;have D:=zH z;clear G z;go_wp2_with fail;go_end0;exact⟨rfl,J.o,(c.o.mono (Nat.le_of_lt E.o)).trans D.o,C.o⟩
  ·have O:=frozen_of_row wr w.heap.size k _ _ a.o;have Q:=c.o.size;have P:k<8:=by omega
   clear N hk8;obtain rfl | rfl | rfl | rfl | rfl | rfl | rfl | rfl:k=0∨k=1∨k=2∨k=3∨k=4∨k=5∨k=6∨k=7:=by omega
   ·have hc:wr.cell? ⟨w.heap.size,0,none⟩=some (.int .u8 0):=(zR wr w.heap.size 0 _ _ _ a.o).trans rfl;clear q1 q2 q3 q4 q5 q6 q7;go_wp2_with fail;exact⟨⟨1,by omega,rfl,zH (by rw[heap_setCell_same _ w.heap.size 0 _ _ _ a.o];rfl),zH (Below.setCell c.o (p:=⟨w.heap.size,0,none⟩) (Nat.le_refl _) _)⟩,by decide⟩
   ·have hc:wr.cell? ⟨w.heap.size,1,none⟩=some (.int .u8 0):=(zR wr w.heap.size 1 _ _ _ a.o).trans rfl;clear q0 q2 q3 q4 q5 q6 q7;go_wp2_with fail;exact⟨⟨2,by omega,rfl,zH (by rw[heap_setCell_same _ w.heap.size 1 _ _ _ a.o];rfl),zH (Below.setCell c.o (p:=⟨w.heap.size,1,none⟩) (Nat.le_refl _) _)⟩,by decide⟩
   ·have hc:wr.cell? ⟨w.heap.size,2,none⟩=some (.int .u8 0):=(zR wr w.heap.size 2 _ _ _ a.o).trans rfl;clear q0 q1 q3 q4 q5 q6 q7;go_wp2_with fail;exact⟨⟨3,by omega,rfl,zH (by rw[heap_setCell_same _ w.heap.size 2 _ _ _ a.o];rfl),zH (Below.setCell c.o (p:=⟨w.heap.size,2,none⟩) (Nat.le_refl _) _)⟩,by decide⟩
   ·have hc:wr.cell? ⟨w.heap.size,3,none⟩=some (.int .u8 0):=(zR wr w.heap.size 3 _ _ _ a.o).trans rfl;clear q0 q1 q2 q4 q5 q6 q7;go_wp2_with fail;exact⟨⟨4,by omega,rfl,zH (by rw[heap_setCell_same _ w.heap.size 3 _ _ _ a.o];rfl),zH (Below.setCell c.o (p:=⟨w.heap.size,3,none⟩) (Nat.le_refl _) _)⟩,by decide⟩
   ·have hc:wr.cell? ⟨w.heap.size,4,none⟩=some (.int .u8 0):=(zR wr w.heap.size 4 _ _ _ a.o).trans rfl;clear q0 q1 q2 q3 q5 q6 q7;go_wp2_with fail;exact⟨⟨5,by omega,rfl,zH (by rw[heap_setCell_same _ w.heap.size 4 _ _ _ a.o];rfl),zH (Below.setCell c.o (p:=⟨w.heap.size,4,none⟩) (Nat.le_refl _) _)⟩,by decide⟩
   ·have hc:wr.cell? ⟨w.heap.size,5,none⟩=some (.int .u8 0):=(zR wr w.heap.size 5 _ _ _ a.o).trans rfl;clear q0 q1 q2 q3 q4 q6 q7;go_wp2_with fail;exact⟨⟨6,by omega,rfl,zH (by rw[heap_setCell_same _ w.heap.size 5 _ _ _ a.o];rfl),zH (Below.setCell c.o (p:=⟨w.heap.size,5,none⟩) (Nat.le_refl _) _)⟩,by decide⟩
   ·have hc:wr.cell? ⟨w.heap.size,6,none⟩=some (.int .u8 0):=(zR wr w.heap.size 6 _ _ _ a.o).trans rfl;clear q0 q1 q2 q3 q4 q5 q7;go_wp2_with fail;exact⟨⟨7,by omega,rfl,zH (by rw[heap_setCell_same _ w.heap.size 6 _ _ _ a.o];rfl),zH (Below.setCell c.o (p:=⟨w.heap.size,6,none⟩) (Nat.le_refl _) _)⟩,by decide⟩
   ·have hc:wr.cell? ⟨w.heap.size,7,none⟩=some (.int .u8 0):=(zR wr w.heap.size 7 _ _ _ a.o).trans rfl;clear q0 q1 q2 q3 q4 q5 q6;go_wp2_with fail;exact⟨⟨8,by omega,rfl,zH (by rw[heap_setCell_same _ w.heap.size 7 _ _ _ a.o];rfl),zH (Below.setCell c.o (p:=⟨w.heap.size,7,none⟩) (Nat.le_refl _) _)⟩,by decide⟩
theorem hJn (b:Nat) (L:List UInt8) (room n:Nat) (a:L.length+room≤1099511627776) (g:8≤room) (w:World) (h:PkAt w b L room) :
  Calls Tryz.prog 119 #[.pointer (some ⟨b,0,none⟩),.int .u64 (n:Int)] w fun e w'=>e=.returned (.tuple #[])∧PkAt w' b (L++be8 n) (room - 8)∧Below b w w':=
 (hMu b L room n a g w h).mono fun e w' ⟨c,d,f,_⟩=>⟨c,d,f⟩
end Go.Proofs.YtlibpcllceepkaaGreat
