/- Joined texts of the claim. No condition. -/
import Derived.Test.YtlibpcllceepkaaGreatB11
import Derived.Defers
import Derived.Recover
namespace Go.Proofs.YtlibpcllceepkaaGreat
open Go.RowKit
set_option maxRecDepth 100000
set_option linter.unusedVariables false
set_option linter.unusedSimpArgs false
set_option maxHeartbeats 16000000
theorem Rs.grown {w w':World} {b:Nat} {S:List UInt8} {k:Nat} (h:Rs w b S) (f:w.grownBy w' (some k)) (c:b≠k):Rs w' b S:=by
 obtain⟨x,i,a,d⟩:=h;exact⟨x,i,(f.block b a.lt (fun e=>c (Option.some.inj e))).trans a,d⟩
theorem hFu {fn:Func} {p:Tmp} (h:fn.results=#[.cell p 419]) (tmps:Array Value) (w:World) (g:Nat) (cs:Array Value) (e:cs.size=3)
  (d:tmps.getD p undef=.pointer (some ⟨g,0,none⟩)) (b:w.heap[g]?=some (.cells cs 419 (0,0))) :
  (results fn tmps).run Tryz.prog w=.ok (.agg cs) w:=by
 have a:tmps[p]?.getD undef=.pointer (some ⟨g,0,none⟩):=by simpa using d
 have c:=run_loadVar_row (P:=Tryz.prog) w g 419 419 cs (0,0) _ b Tryz.underlying419 rfl (by rw[e];kernel_rfl);simp[results,h,a,asAddr,c]
theorem hVm (w:World):Calls Tryz.prog 343 #[.int .u8 98] w fun e w'=>e=.returned (.bool true)∧w=w':=by
 go_enter Tryz.func343,Tryz.ntmps343;go_wp2_with fail;go_ret;exact⟨rfl,rfl⟩
theorem hVn (w:World):Calls Tryz.prog 343 #[.int .u8 113] w fun e w'=>e=.returned (.bool true)∧w=w':=by
 go_enter Tryz.func343,Tryz.ntmps343;go_wp2_with fail;go_ret;exact⟨rfl,rfl⟩
def valB (n:Nat):Value:=.agg #[.int .i64 n,.int .u64 0,.string ⟨#[]⟩]
def valQ (n:Nat):Value:=.agg #[.int .i64 0,.int .u64 (n:Int),.string ⟨#[]⟩]
theorem hEk {a b c:World} {row:Option Nat} {g:Nat} (h:a.grownBy b row) (k:b.grownBy c (some g)) (f:a.heap.size≤g):a.grownBy c row:=
 ⟨k.os.trans h.os,k.tape.trans h.tape,k.output.trans h.output,Nat.le_trans h.size k.size,fun i hi d=>(k.block i (Nat.lt_of_lt_of_le hi h.size) (fun e=>by have:=Option.some.inj e;omega)).trans (h.block i hi d)⟩
theorem hKq (w:World) (g:Nat) (T:TypeId) (z0 z1 z2 a0 a1 a2:Value) (h:w.heap[g]?=some (.cells #[z0,z1,z2] T (0,0))) :
  (((w.setCell ⟨g,0,none⟩ a0).setCell ⟨g,1,none⟩ a1).setCell ⟨g,2,none⟩ a2).heap[g]?=some (.cells #[a0,a1,a2] T (0,0))
  ∧ w.grownBy (((w.setCell ⟨g,0,none⟩ a0).setCell ⟨g,1,none⟩ a1).setCell ⟨g,2,none⟩ a2) (some g):=by
 have a:=heap_setCell_same w g 0 _ _ a0 h;have b:=heap_setCell_same _ g 1 _ _ a1 a;have c:=heap_setCell_same _ g 2 _ _ a2 b;refine⟨c.trans (by rfl),?_⟩;exact hAb (hAb (hAb (hAa (Below.refl _ _) _) (p:=⟨g,0,none⟩) (.inl rfl) _) (p:=⟨g,1,none⟩) (.inl rfl) _) (p:=⟨g,2,none⟩) (.inl rfl) _
theorem hYj (rb:Nat) (n:Nat) (H:n<256) (S:List UInt8) (w:World) (h:Rs w rb (beL 1 n++S)) :
  Calls Tryz.prog 344 #[.pointer (some ⟨rb,0,none⟩),.int .u8 98] w fun e w'=>e=.returned (valB n)∧Rs w' rb S∧w.grownBy w' (some rb):=by
 have L:=h.lt;obtain⟨a1,a2,J,l⟩:=hAp w (.cells #[.int .i64 0,.int .u64 0,.string ⟨#[]⟩] 419) (.cells #[.int .i64 0,.int .u64 0,.string ⟨#[]⟩] 419);have B:=zH l;have f:=zH a1;have g:=zH a2;have C:=zH (hC6 rb n H S _ (h.keep l));unfold valB;clear h l a1 a2;go_enter Tryz.func344,Tryz.ntmps344;go_wp2_with fail;generalize World.alloc _ _=w0 at B f g C J ⊢;refine C.o.mono ?_;rintro r w1 ⟨rfl,q,b⟩;have u:=(b.block _ (by omega) (fun e=>by have:=Option.some.inj e;omega)).trans f.o;have c:=(b.block _ (by omega) (fun e=>by have:=Option.some.inj e;omega)).trans g.o;have v:w.grownBy w1 (some rb):=(hAa B.o _).trans b;have D:=zH q;have f2:=frozen_of_row w1 (w.heap.size+1) 0 _ _ c;have g2:=zR w1 (w.heap.size+1) 0 _ _ _ c;simp at g2;have K:w.heap.size+1<w1.heap.size:=by have:=b.size;omega
 have d:=zH (heap_setCell_same w1 (w.heap.size+1) 0 _ _ (.int .i64 n) c);have a:=zH ((Below.heap_setCell w1 ⟨w.heap.size+1,0,none⟩ (.int .i64 n) w.heap.size (by simp)).trans u);have m:w1.grownBy (w1.setCell ⟨w.heap.size+1,0,none⟩ (.int .i64 n)) (some (w.heap.size+1)):=hAb (hAa (Below.refl _ _) _) (p:=⟨w.heap.size+1,0,none⟩) (.inl rfl) _;have j:=zH (q.grown m (by omega));have s:=zH (hEk v m (by omega));clear b q u c v m f g C D B;generalize y:w1.setCell ⟨w.heap.size+1,0,none⟩ (.int .i64 n)=w2 at d a j s;have F:=zH y;have d0:=(zR w2 (w.heap.size+1) 0 _ _ _ d.o).trans rfl;have d1:=(zR w2 (w.heap.size+1) 1 _ _ _ d.o).trans rfl;have d2:=(zR w2 (w.heap.size+1) 2 _ _ _ d.o).trans rfl;have f1:=fun k=>frozen_of_row w2 w.heap.size k _ _ a.o;have e0:=(zR w2 w.heap.size 0 _ _ _ a.o).trans rfl;have e1:=(zR w2 w.heap.size 1 _ _ _ a.o).trans rfl;have e2:=(zR w2 w.heap.size 2 _ _ _ a.o).trans rfl;simp at d0 d1 d2 e0 e1 e2;obtain⟨x,i,z,G⟩:=j.o;have c2:=(zR w2 rb 2 _ _ _ z).trans rfl;simp at c2;clear z G;obtain⟨t1,t2⟩:=hKq w2 w.heap.size 419 _ _ _ (.int .i64 n) (.int .u64 0) (.string ⟨#[]⟩) a.o;have E:=zH t1;have t:=zH t2;have I:w1.setCell ⟨w.heap.size+1,0,none⟩ (.int .i64 n)=w2:=F.o;clear t1 t2 y;go_wp2_with fail;exact bodyPost_ret (hFu rfl _ _ w.heap.size _ rfl (by rfl) E.o) rfl ⟨rfl,j.o.grown t.o (by omega),hEk s.o t.o (Nat.le_refl _)⟩
theorem hYk (rb:Nat) (n:Nat) (H:n<18446744073709551616) (S:List UInt8) (w:World) (h:Rs w rb (be8 n++S)) :
  Calls Tryz.prog 344 #[.pointer (some ⟨rb,0,none⟩),.int .u8 113] w fun e w'=>e=.returned (valQ n)∧Rs w' rb S∧w.grownBy w' (some rb):=by
 have L:=h.lt;obtain⟨a1,a2,J,l⟩:=hAp w (.cells #[.int .i64 0,.int .u64 0,.string ⟨#[]⟩] 419) (.cells #[.int .i64 0,.int .u64 0,.string ⟨#[]⟩] 419);have B:=zH l;have f:=zH a1;have g:=zH a2;have C:=zH (hPw rb n H S _ (h.keep l));unfold valQ;clear h l a1 a2;go_enter Tryz.func344,Tryz.ntmps344;go_wp2_with fail;generalize World.alloc _ _=w0 at B f g C J ⊢;refine C.o.mono ?_;rintro r w1 ⟨rfl,q,b⟩;have u:=(b.block _ (by omega) (fun e=>by have:=Option.some.inj e;omega)).trans f.o;have c:=(b.block _ (by omega) (fun e=>by have:=Option.some.inj e;omega)).trans g.o;have v:w.grownBy w1 (some rb):=(hAa B.o _).trans b;have D:=zH q;have f2:=frozen_of_row w1 (w.heap.size+1) 1 _ _ c;have g2:=zR w1 (w.heap.size+1) 1 _ _ _ c;simp at g2;have K:w.heap.size+1<w1.heap.size:=by have:=b.size;omega
 have d:=zH (heap_setCell_same w1 (w.heap.size+1) 1 _ _ (.int .u64 (n:Int)) c);have a:=zH ((Below.heap_setCell w1 ⟨w.heap.size+1,1,none⟩ (.int .u64 (n:Int)) w.heap.size (by simp)).trans u);have m:w1.grownBy (w1.setCell ⟨w.heap.size+1,1,none⟩ (.int .u64 (n:Int))) (some (w.heap.size+1)):=hAb (hAa (Below.refl _ _) _) (p:=⟨w.heap.size+1,1,none⟩) (.inl rfl) _;have j:=zH (q.grown m (by omega));have s:=zH (hEk v m (by omega));clear b q u c v m f g C D B;generalize y:w1.setCell ⟨w.heap.size+1,1,none⟩ (.int .u64 (n:Int))=w2 at d a j s;have F:=zH y;have d0:=(zR w2 (w.heap.size+1) 0 _ _ _ d.o).trans rfl;have d1:=(zR w2 (w.heap.size+1) 1 _ _ _ d.o).trans rfl;have d2:=(zR w2 (w.heap.size+1) 2 _ _ _ d.o).trans rfl;have f1:=fun k=>frozen_of_row w2 w.heap.size k _ _ a.o;have e0:=(zR w2 w.heap.size 0 _ _ _ a.o).trans rfl;have e1:=(zR w2 w.heap.size 1 _ _ _ a.o).trans rfl;have e2:=(zR w2 w.heap.size 2 _ _ _ a.o).trans rfl;simp at d0 d1 d2 e0 e1 e2;obtain⟨x,i,z,G⟩:=j.o;have c2:=(zR w2 rb 2 _ _ _ z).trans rfl;simp at c2;clear z G;obtain⟨t1,t2⟩:=hKq w2 w.heap.size 419 _ _ _ (.int .i64 0) (.int .u64 (n:Int)) (.string ⟨#[]⟩) a.o;have E:=zH t1;have t:=zH t2;have I:w1.setCell ⟨w.heap.size+1,1,none⟩ (.int .u64 (n:Int))=w2:=F.o;clear t1 t2 y;go_wp2_with fail;exact bodyPost_ret (hFu rfl _ _ w.heap.size _ rfl (by rfl) E.o) rfl ⟨rfl,j.o.grown t.o (by omega),hEk s.o t.o (Nat.le_refl _)⟩
theorem hQp:(Tryz.prog.info? 419).map (fun i=>(i.zero,i.size,i.bytes))=some (some (.agg #[.int .i64 0,.int .u64 0,.string ⟨#[]⟩]),3,32):=by kernel_rfl
theorem hUc (a b:Value) (w:World) :
  CallsD Tryz.prog 342 #[a,b] .returning w fun e u' w'=>e=.returned (.tuple #[])∧u'=.returning∧w'=w:=by
 have c:(Instr.typeAssert Value.nilIface 20 427 true).run Tryz.prog w=.ok (.tuple #[.int .i64 0,.bool false]) w:=by kernel_rfl
 refine callsD_of_wpS Tryz.func342 rfl fun c₀ cs d=>?_;apply wpS_seq;apply wpS_region;simp[wpOpsS,go_sem,recoverD,d,Tryz.ntmps342,Exit.thenS,c];apply wpS_seq;apply wpS_region;simp[wpOpsS,go_sem,Exit.thenS,Array.replicate];refine wpS_cond (t:=false) (by simp[Act.eval,Array.replicate]) ?_;simp only[Bool.false_eq_true,if_false];refine wpS_of_wp (wp_skip ?_);cases c₀
 simp_all [bodyPostS,results,Tryz.results342]
def Own1 (w:World) (base:Nat) (T:TypeId) (k:Nat) (v:Value) (n:Nat) (xs:List Value):Prop:=Row w (fun b=>if b<base then 0 else 1) 1 T k v n xs
theorem Own1.row {w:World} {base:Nat} {T:TypeId} {k:Nat} {v:Value} {n:Nat} {xs:List Value} (h:Own1 w base T k v n xs):w.ownsRow base T k v n xs:=by
 obtain⟨⟨b,a⟩,c⟩:=h;refine⟨b,?_⟩;rcases a with a | ⟨g,cap,cur,rfl,_,a⟩
 ·exact .inl a
 ·refine .inr ⟨g,cap,cur,rfl,?_,a⟩;have:=c g rfl;by_cases hb:g<base
  ·simp[hb] at this
  ·omega
theorem Own1.nil (w:World) (base:Nat) (T:TypeId) (k:Nat):Own1 w base T k (.slice none 0 0) 0 []:=⟨World.ownsRow_nil _ _ _ _,fun g a=>by cases a⟩
theorem AppOut.own1 {w:World} {base:Nat} {T:TypeId} {k:Nat} {v v':Value} {w':World} {n:Nat} {xs:List Value} (h:AppOut w (fun b=>if b<base then 0 else 1) 1 T k v v' w' n xs) (c:base≤w.heap.size):Own1 w' base T k v' n xs:=by
 refine⟨h.row.1,fun g a=>?_⟩;have:=h.row.2 g a;by_cases hl:g<w.heap.size
 ·rw[Tags.ext_old _ _ _ _ hl] at this;exact this
 ·show(if g<base then 0 else 1)=1;rw[if_neg (by omega)]
theorem AppOut.below {w:World} {base:Nat} {T:TypeId} {k:Nat} {v v':Value} {w':World} {n m:Nat} {xs ys:List Value} (h:AppOut w (fun b=>if b<base then 0 else 1) 1 T k v v' w' n xs) (c:Own1 w base T k v m ys) (d:base≤w.heap.size):Below base w w':=
 ⟨h.chg.os,h.chg.tape,h.chg.output,h.chg.size,fun b a=>h.grown.block b (by
  omega) (fun e=>by
  have:=c.2 b e.symm;simp[a] at this)⟩
theorem Own1.grown {w w':World} {base:Nat} {T:TypeId} {k:Nat} {v:Value} {n:Nat} {xs:List Value} (h:Own1 w base T k v n xs) {g:Nat} (f:w.grownBy w' (some g)) {cs:Array Value} {B:TypeId} {fr:Nat×Nat} (d:w.heap[g]?=some (.cells cs B fr)) (c:B≠T):Own1 w' base T k v n xs:=by
 refine⟨World.ownsRow.kept h.1 f ?_,h.2⟩;cases hub:v.ownBlock with
 |none=>exact .inl rfl
 |some b=>
  refine .inr (fun e=>?_);rcases h.1.2 with⟨rfl,_⟩ | ⟨g',cap,cur,rfl,_,a,_⟩
  ·cases hub
  ·cases hub;cases e;rw[d] at a;injection a with a;injection a with _ h2 _;exact c h2
theorem Own1.below {w w':World} {base:Nat} {T:TypeId} {k:Nat} {v:Value} {n:Nat} {xs:List Value} (h:Own1 w base T k v n xs) (a:Below w.heap.size w w'):Own1 w' base T k v n xs:=Row.fix (P:=fun _=>True) h (Fix.same a) trivial
theorem Rs.row {w:World} {b:Nat} {S:List UInt8} (h:Rs w b S):∃ cs,w.heap[b]?=some (.cells cs 403 (0,0)):=by
 obtain⟨x,i,h,_⟩:=h;exact⟨_,h⟩
theorem AppOut.keep {w:World} {o:Tags} {i:Nat} {T:TypeId} {k:Nat} {v v':Value} {w':World} {n m:Nat} {xs ys:List Value} (h:AppOut w o i T k v v' w' n xs) (f:Row w o i T k v m ys) {b:Nat} {B:TypeId} {cs:Array Value} {fr:Nat×Nat} (c:w.heap[b]?=some (.cells cs B fr)) (d:B≠T):w'.heap[b]?=some (.cells cs B fr):=by
 refine(h.grown.block b (zL c) (fun e=>?_)).trans c;rcases f.1.2 with⟨rfl,_⟩ | ⟨g,cap,cur,rfl,_,a,_⟩
 ·cases e
 ·cases e;rw[c] at a;injection a with a;injection a with _ h2 _;exact d h2
theorem hAj {a b:World} {g B:Nat} (h:a.grownBy b (some g)) (c:B≤a.heap.size) (d:B≤g):Below B a b:=
 ⟨h.os,h.tape,h.output,h.size,fun k f=>h.block k (by omega) (fun e=>by have:=Option.some.inj e;omega)⟩
def noPan (Q:Exit→Act→World→Prop):Exit→Act→World→Prop:=fun e a w=>match e with
 |.panic _=>False
 |e'=>Q e' a w
theorem hVv {Q:Exit→Act→World→Prop}:∀ e a w,noPan Q e a w→Q e a w:=fun e a w h=>by
 cases e<;>first | exact h | exact False.elim h
theorem hMo {Q:Exit→Act→World→Prop} {a:Act} {w:World} (h:Q .normal a w):noPan Q .normal a w:=h
def bqT:ByteArray:=⟨#[98,113]⟩
def bqS (code real k:Nat):List UInt8:=if k=0 then beL 1 code++(be8 real++[]) else if k=1 then be8 real++[] else []
def bqV (code real k:Nat):List Value:=([.int .i64 code,.int .u64 0,.string ⟨#[]⟩,.int .i64 0,.int .u64 (real:Int),.string ⟨#[]⟩]:List Value).take (k*3)
def bqI (code real k:Nat):Value:=if k=0 then valB code else valQ real
def bqC (k:Nat):Int:=if k=0 then 98 else 113
theorem hU2 (code real k:Nat) (b:k<2) (hc:code<256) (a:real<18446744073709551616) (rb:Nat) (w:World) (h:Rs w rb (bqS code real k)) :
  Calls Tryz.prog 344 #[.pointer (some ⟨rb,0,none⟩),.int .u8 (bqC k)] w fun e w'=>e=.returned (bqI code real k)∧Rs w' rb (bqS code real (k+1))∧w.grownBy w' (some rb):=by
 obtain rfl | rfl:k=0∨k=1:=by omega
 ·exact hYj rb code hc _ w h
 ·exact hYk rb real a _ w h
theorem hR4 (k:Nat) (a:k<2) (w:World):Calls Tryz.prog 343 #[.int .u8 (bqC k)] w fun e w'=>e=.returned (.bool true)∧w=w':=by
 obtain rfl | rfl:k=0∨k=1:=by omega
 ·exact hVm w
 ·exact hVn w
theorem hU1 (code real k:Nat) (c:k<2):∃ a b:Value,bqI code real k=.agg #[a,b,.string ⟨#[]⟩]∧bqV code real (k+1)=bqV code real k++[a,b,.string ⟨#[]⟩]∧a.oneCell'=true∧b.oneCell'=true:=by
 obtain rfl | rfl:k=0∨k=1:=by omega
 ·exact⟨_,_,rfl,rfl,rfl,rfl⟩
 ·exact⟨_,_,rfl,rfl,rfl,rfl⟩
theorem hYc (code real:Nat) (hc:code<256) (hr:real<18446744073709551616) (x:ByteArray) (hx:x=bs (beL 1 code++be8 real)) (w:World) :
  Calls Tryz.prog 330 #[.string ⟨#[98,113]⟩,.string x] w fun r w'=>∃ A c,r=.returned (.tuple #[.slice A 2 c,.int .i64 0])∧w'.ownsRow w.heap.size 419 3 (.slice A 2 c) 2 (bqV code real 2)∧Below w.heap.size w w':=by
 obtain⟨i0,ap,ay,az,aB⟩:=info_parts hQp;have aM:=zH ap;have aN:=zH ay;have aO:=zH az;have aP:=zH aB;clear ap ay az aB;have ag:zI (x.data.toList=bqS code real 0∧x.size≤maxLen):=zH ⟨by
  rw[hx];simp[bs,bqS],by rw[hx,hA3,List.length_append,hCt];unfold maxLen;simp[beL]⟩
 clear hx;have HV:=fun k J rb w h=>zH (hU2 code real k J hc hr rb w h);clear hc hr;obtain⟨n1,n2,hz,aj⟩:=hAp w (.cells #[.slice none 0 0] 415) (.cells #[.int .i64 0] 26);have Hg:=zH n1;have Hh:=zH n2;have HB:=zH aj;clear n1 n2 aj;have bl:∀ (fn:Fn) (first cap:Array Value) (w:World),(Instr.makeFunc fn first cap).run Tryz.prog w=.ok (.func fn first cap) w:=fun _ _ _ _=>rfl;have bi:=fun W:World=>Lib.run_convert_string_bytes (P:=Tryz.prog) W 9 244 5 ⟨#[98,113]⟩ Tryz.underlying9 Tryz.underlying244 Tryz.underlying5
 go_enter_defers Tryz.func330,Tryz.ntmps330
 go_wp2_with fail;generalize grownCap _ _ _ _=gc;generalize ai:(w.alloc (.cells #[.slice none 0 0] 415)).alloc (.cells #[.int .i64 0] 26)=W0 at Hg Hh HB hz ⊢;have Hu:W0.heap.size=w.heap.size+1+1:=by rw[←ai];simp
 clear ai;have b:=hEn W0 ⟨#[98,113]⟩;have V:=zH (zB HB.o b);have Hi:=zH ((b.block _ (by omega)).trans Hg.o);have Hj:=zH ((b.block _ (by omega)).trans Hh.o);have Ha:zI (∀ k,k<2→(Lib.bytesWorld W0 5 ⟨#[98,113]⟩).cell? ⟨w.heap.size+1+1,k,none⟩=some (.int .u8 (bqC k))):=zH (fun k J=>by
  have h:=Lib.bytesWorld_cell W0 5 ⟨#[98,113]⟩ k J;rw[Hu] at h;rw[h];obtain rfl | rfl:k=0∨k=1:=by omega
  all_goals rfl)
 have aq:w.heap.size+1+1<(Lib.bytesWorld W0 5 ⟨#[98,113]⟩).heap.size:=by rw[Lib.bytesWorld_size];omega
 clear b hz;generalize Lib.bytesWorld W0 5 ⟨#[98,113]⟩=w1 at V Hi Hj Ha aq ⊢;clear Hg Hh HB Hu;go_loopw [7,16] (fun _ j wr=>∃ k:Nat,k≤2∧j=.int .i64 k∧w1=wr) (fun _ j _=>2 - (intOf j).toNat)
 case atStart=>exact⟨0,by omega,rfl,rfl⟩
 case round=>
  obtain⟨k,J,rfl,rfl⟩:=hrel;by_cases hk2:k<2
  ·have n0:(0:Int)≤(k:Int):=by omega
   have n1:(k:Int)<2:=by omega
   have hc:=Ha.o k hk2;have HL:=zH (hR4 k hk2 w1);generalize bqC k=C at hc HL;go_wp2_with fail;refine HL.o.mono ?_;rintro r wx ⟨rfl,rfl⟩;go_wp2_with fail;exact⟨⟨k+1,by omega,by go_num,trivial⟩,by simp[intOf];omega⟩
  ·obtain rfl:k=2:=by omega
   clear hk2;go_wp2_with fail;refine(hM7 x w1).mono ?_;rintro r w2 ⟨rfl,Ht,N⟩;obtain⟨rb,av⟩:=zN (w1.heap.size);rw[←av] at Ht ⊢;have bp:w.heap.size+1+1<rb:=by omega
   have L:=zH (Rs.new Ht ag.o.2);rw[ag.o.1] at L;have Hy:=zH (zB V.o N);have hJ:=zH ((N.block _ (by omega)).trans Hi.o);have hO:=zH ((N.block _ (by omega)).trans Hj.o);clear Ht N av Hi Hj Ha V aq;go_wp2_with fail;generalize grownCap _ _ _ _=gc;have b:=hEn w2 ⟨#[98,113]⟩;have Hz:=zH (zB Hy.o b);have aG:=L.o.lt;have hU:=zH ((b.block _ (by omega)).trans hJ.o);have aa:=zH ((b.block _ (by omega)).trans hO.o);have ab:=zH (L.o.keep b);obtain⟨sb,T⟩:=zN (w2.heap.size);rw[←T];have Hb:zI (∀ k,k<2→(Lib.bytesWorld w2 5 ⟨#[98,113]⟩).cell? ⟨sb,k,none⟩=some (.int .u8 (bqC k))):=zH (fun k J=>by
    have h:=Lib.bytesWorld_cell w2 5 ⟨#[98,113]⟩ k J;rw[T,h];obtain rfl | rfl:k=0∨k=1:=by omega
    all_goals rfl)
   obtain⟨bcs,bfr,O⟩:∃ cs fr,(Lib.bytesWorld w2 5 ⟨#[98,113]⟩).heap[sb]?=some (.cells cs 5 fr):=⟨_,_,by rw[T];exact Lib.bytesWorld_at_new _ _ _⟩;have Z:=zH O;have bo:rb<sb:=by omega
   clear b T O;generalize Lib.bytesWorld w2 5 ⟨#[98,113]⟩=w3 at Hz hU aa ab Hb Z ⊢;clear hJ hO L Hy aG;go_loopw [10,29] (fun _ j wr=>∃ k:Nat,k≤2∧j=.int .i64 k∧zI (Rs wr rb (bqS code real k))∧zI (∃ A c,Own1 wr w.heap.size 419 3 (.slice A k c) k (bqV code real k)∧wr.heap[w.heap.size]?=some (.cells #[.slice A k c] 415 (0,0)))∧zI (wr.heap[w.heap.size+1]?=some (.cells #[.int .i64 0] 26 (0,0)))∧zI (wr.heap[sb]?=w3.heap[sb]?)∧zI (Below w.heap.size w wr)) (fun _ j _=>2 - (intOf j).toNat)
   case atStart=>exact⟨0,by omega,rfl,ab,zH ⟨none,0,Own1.nil _ _ _ _,hU.o⟩,aa,zH rfl,Hz⟩
   case round=>
    obtain⟨k,J,rfl,D,G,m,R,hb⟩:=hrel;have n0:(0:Int)≤(k:Int):=by omega
    by_cases hk2:k<2
    ·have n1:(k:Int)<2:=by omega
     have hc:wr.cell? ⟨sb,k,none⟩=some (.int .u8 (bqC k)):=by
      have h:=Hb.o k hk2;unfold World.cell? at h ⊢;rw[R.o];exact h
     have Hk:=zH (HV k hk2 rb wr.drew (D.o.keep ⟨rfl,rfl,rfl,Nat.le_refl _,fun _ _=>rfl⟩)).o;obtain⟨a1,a2,ha,ax,aW,aX⟩:=hU1 code real k hk2;rw[ha] at Hk;have aL:=zH ax;obtain⟨A,c,g,n⟩:=G.o;have c0:=(zR wr w.heap.size 0 _ _ _ n).trans rfl;have f0:=frozen_of_row wr w.heap.size 0 _ _ n;have q:=zH g;have v:=zH n;have U:=(zL n);have bj:=(zL m.o);have bm:=D.o.lt;simp at c0;clear ha ax G g n;generalize bqC k=C at hc Hk;go_wp2_with fail;clear hc;obtain⟨rcs,aw⟩:=D.o.row;have aK:=zH aw;have aF:=m;have aE:=R;have hI:=hb;clear aw m R hb D;refine Code.wp_mono (Q:=noPan _) hVv ?_;go_region_law (first
      |(go_simp;go_at_call 344;refine Hk.o.mono ?_;rintro r w4 ⟨rfl,ar,z⟩;have l:wr.grownBy w4 (some rb):=⟨z.os,z.tape,z.output,z.size,z.block⟩;have e0:=(zR w4 w.heap.size 0 _ _ _ ((l.block _ U (fun e=>by have:=Option.some.inj e;omega)).trans v.o)).trans rfl;simp at e0;have bh:w.heap.size<w4.heap.size:=Nat.lt_of_lt_of_le U l.size;have a:Own1 (w4.alloc (.cells #[a1,a2,.string ⟨#[]⟩] 419)) w.heap.size 419 3 (.slice A k c) k (bqV code real k):=(q.o.grown l aK.o (by decide)).below ((Below.refl _ _).alloc (Nat.le_refl _) _))
      |(refine hBq (by rfl) (.tmp 33) (.tmp 37) 415 (by rfl) _ 1 419 i0 _ 3 32 Tryz.underlying415 aM.o aN.o aO.o aP.o rfl (by decide) _ _ _ (by rfl) a ⟨w4.heap.size,0,none⟩ 1 1 [_,_,_] (by rfl) (by rfl) (World.news_of_block (cs:=#[_,_,_]) (t:=419) (fr:=(0,0)) (heap_alloc_new w4 _)) (by intro u hu;simp only[List.mem_cons,List.not_mem_nil,or_false] at hu;rcases hu with rfl | rfl | rfl<;>first | exact aW | exact aX | rfl) (by unfold maxLen;omega) (by omega) ?_;intro v2 w5 d;obtain⟨VA2,VC2,rfl⟩:=hAk d.row.1;have s:=d.keep a ((heap_alloc_old w4 (.cells #[a1,a2,.string ⟨#[]⟩] 419) (Nat.lt_of_lt_of_le U l.size)).trans ((l.block _ U (fun e=>by have:=Option.some.inj e;omega)).trans v.o)) (by decide);have t0:=(zR w5 w.heap.size 0 _ _ _ s).trans rfl;have tf:=frozen_of_row w5 w.heap.size 0 _ _ s;simp at t0))
     all_goals
      refine hMo ?_;have Hp:w4.grownBy (w4.alloc (.cells #[a1,a2,.string ⟨#[]⟩] 419)) none:=World.grownBy_alloc _ _ _;have K:w.heap.size≤(w4.alloc (.cells #[a1,a2,.string ⟨#[]⟩] 419)).heap.size:=by have:=l.size;have:=Hp.size;omega
      have Hl:=hI.o.trans (hAj l hI.o.size (by omega));have Hm:=(Hl.alloc Hl.size (.cells #[a1,a2,.string ⟨#[]⟩] 419)).trans (d.below a K);have Hr:=d.own1 K;have I:w5.grownBy (w5.setCell ⟨w.heap.size,0,none⟩ (.slice VA2 (k+1) VC2)) (some w.heap.size):=hAb (hAa (Below.refl _ _) _) (p:=⟨w.heap.size,0,none⟩) (.inl rfl) _;have S:=Hr.grown I s (by decide);have Hq:=heap_setCell_same w5 w.heap.size 0 _ _ (.slice VA2 (k+1) VC2) s;have ah:=Hm.trans (hAj I Hm.size (Nat.le_refl _));have keep:∀ X cs B fr,wr.heap[X]?=some (.cells cs B fr)→B≠419→X≠rb→X≠w.heap.size→(w5.setCell ⟨w.heap.size,0,none⟩ (.slice VA2 (k+1) VC2)).heap[X]?=some (.cells cs B fr):=fun X cs B fr hX hB h1 h2=>by
       have aR:=(zL hX);have k1:=(l.block X aR (fun e=>h1 (Option.some.inj e))).trans hX;have k2:=(heap_alloc_old w4 (.cells #[a1,a2,.string ⟨#[]⟩] 419) (zL k1)).trans k1;have k3:=d.keep a k2 hB;exact(I.block X (zL k3) (fun e=>h2 (Option.some.inj e))).trans k3
      have au:Rs (w5.setCell ⟨w.heap.size,0,none⟩ (.slice VA2 (k+1) VC2)) rb (bqS code real (k+1)):=by
       obtain⟨y,i,y1,y2⟩:=ar;have k2:=(heap_alloc_old w4 (.cells #[a1,a2,.string ⟨#[]⟩] 419) (zL y1)).trans y1;have k3:=d.keep a k2 (by decide);exact⟨y,i,(I.block rb (zL k3) (fun e=>by have:=Option.some.inj e;omega)).trans k3,y2⟩
      have ae:=zH au;have M:zI (∃ A c,Own1 (w5.setCell ⟨w.heap.size,0,none⟩ (.slice VA2 (k+1) VC2)) w.heap.size 419 3 (.slice A (k+1) c) (k+1) (bqV code real (k+1))∧(w5.setCell ⟨w.heap.size,0,none⟩ (.slice VA2 (k+1) VC2)).heap[w.heap.size]?=some (.cells #[.slice A (k+1) c] 415 (0,0))):=zH ⟨VA2,VC2,by rw[aL.o];exact S,Hq⟩;have Hf:=zH (keep _ _ _ _ aF.o (by decide) (by omega) (by omega));have Hc:=zH ((keep _ _ _ _ (aE.o.trans Z.o) (by decide) (by omega) (by omega)).trans Z.o.symm);have HJ:=zH ah;clear Hp K Hl Hm Hr I S Hq ah keep au d a ar z l e0 t0 tf s;generalize w5.setCell ⟨w.heap.size,0,none⟩ (.slice VA2 (k+1) VC2)=w6 at ae M Hf Hc HJ ⊢;go_wp2_with fail;exact⟨⟨k+1,by omega,by go_num,ae,M,Hf,Hc,HJ⟩,by simp[intOf];omega⟩
    ·obtain rfl:k=2:=by omega
     clear hk2;obtain⟨A,c,g,n⟩:=G.o;have HE:=zH (hUb rb wr D.o);have q:=zH g;have v:=zH n;clear G g n D R;go_wp2_with fail;refine HE.o.mono ?_;rintro r w7 ⟨rfl,H⟩;have E:=(H.block _ (zL v.o)).trans v.o;have F:=(H.block _ (zL m.o)).trans m.o;have Hw:=zH (q.o.below H);have Y:=zH (zB hb.o H);have c0:=(zR w7 w.heap.size 0 _ _ _ E).trans rfl;have d0:=(zR w7 (w.heap.size+1) 0 _ _ _ F).trans rfl;have f0:=fun k=>frozen_of_row w7 w.heap.size k _ _ E;have g0:=fun k=>frozen_of_row w7 (w.heap.size+1) k _ _ F;simp at c0 d0;clear hb H m q v HE;go_wp2_with fail;refine leaves_cons (f:=342) (args:=#[.pointer (some ⟨w.heap.size,0,none⟩),.pointer (some ⟨w.heap.size+1,0,none⟩)]) (by simp) (by simp[go_sem]) ?_;refine(hUc _ _ _).mono ?_;rintro e u' w'' ⟨rfl,rfl,rfl⟩;clear c0 d0 f0 g0;obtain⟨t1,t2⟩:(w7.setCell ⟨w.heap.size,0,none⟩ (.slice A 2 c)).setCell ⟨w.heap.size+1,0,none⟩ (.int .i64 0)=(w7.setCell ⟨w.heap.size,0,none⟩ (.slice A 2 c)).setCell ⟨w.heap.size+1,0,none⟩ (.int .i64 0)∧True:=⟨rfl,trivial⟩;have g1:w7.grownBy (w7.setCell ⟨w.heap.size,0,none⟩ (.slice A 2 c)) (some w.heap.size):=hAb (hAa (Below.refl _ _) _) (p:=⟨w.heap.size,0,none⟩) (.inl rfl) _;have am:=heap_setCell_same w7 w.heap.size 0 _ _ (.slice A 2 c) E;have an:=(g1.block _ (zL F) (fun e=>by have:=Option.some.inj e;omega)).trans F;have g2:(w7.setCell ⟨w.heap.size,0,none⟩ (.slice A 2 c)).grownBy ((w7.setCell ⟨w.heap.size,0,none⟩ (.slice A 2 c)).setCell ⟨w.heap.size+1,0,none⟩ (.int .i64 0)) (some (w.heap.size+1)):=hAb (hAa (Below.refl _ _) _) (p:=⟨w.heap.size+1,0,none⟩) (.inl rfl) _;have aT:=(g2.block _ (zL am) (fun e=>by have:=Option.some.inj e;omega)).trans am;have aU:=heap_setCell_same _ (w.heap.size+1) 0 _ _ (.int .i64 0) an;have aV:=Hw.o.grown g1 E (by decide);have ao:=aV.grown g2 an (by decide);have ak:=Y.o.trans ((hAj g1 Y.o.size (Nat.le_refl _)).trans (hAj g2 (Nat.le_trans Y.o.size g1.size) (by omega)));have u0:=(zR _ w.heap.size 0 _ _ _ aT).trans rfl;have u1:=(zR _ (w.heap.size+1) 0 _ _ _ aU).trans rfl;simp at u0 u1;generalize (w7.setCell ⟨w.heap.size,0,none⟩ (.slice A 2 c)).setCell ⟨w.heap.size+1,0,none⟩ (.int .i64 0)=w8 at u0 u1 ao ak ⊢;refine⟨.tuple #[.slice A 2 c,.int .i64 0],?_,A,c,rfl,ao.row,ak⟩;simp[results,Tryz.results330,go_sem,u0,u1]
theorem hCj {w:World} {base:Nat} {T:TypeId} {k n c:Nat} {A:Option Addr} {xs:List Value} (h:w.ownsRow base T k (.slice A n c) n xs) (o:0<n) :
  ∃ g,A=some ⟨g,0,none⟩∧base≤g∧g<w.heap.size∧n≤c∧c≤9223372036854775807∧∀ (j:Nat) (u:Value),xs[j]?=some u→w.cell? ⟨g,j,none⟩=some u:=by
 rcases h.2 with⟨_,p⟩ | ⟨g,cap,cur,i,a,b,d,e,l,m⟩
 ·omega
 ·injection i with e1 _ e3;subst e1;subst e3;exact⟨g,rfl,a,(zL b),d,e,fun j u f=>by
   have:=World.ownsRow.cells h (g:=g) rfl j u f;rw[hAl,Nat.zero_add] at this;exact this⟩
theorem hO1 (code real:Nat) (hc:code≤8) (p:Real64 real) (w:World) :
  Calls Tryz.prog 323 #[.string (resT code real)] w fun r w'=>r=.returned (.tuple #[.agg #[.int .i64 code,.float .f64 real],.int .i64 0])∧Below w.heap.size w w':=by
 have s:=fun w=>zH (hYc code real (by omega) p.2 (resT code real) (by unfold resT;rw[p.1]) w);generalize resT code real=x at s ⊢;have y:=fun lo hi w=>zH (hIf (code:Int) lo hi w);have D:=zH (decide_eq_true (show(0:Int)≤(code:Int)∧(code:Int)≤8 by omega));have v:=fun w=>zH (hSr real p.1 w);have d:=zH (heap_alloc_new w (.cells #[.int .i64 0,.float .f64 0] 43));have h:=zH ((Below.refl w.heap.size w).alloc (Nat.le_refl _) (.cells #[.int .i64 0,.float .f64 0] 43));have f:w.heap.size<(w.alloc (.cells #[.int .i64 0,.float .f64 0] 43)).heap.size:=by simp
 have F:=fun(w:World) (a:Addr) (k:FloatKind) (n:Nat)=>run_store Tryz.prog w a (.float k n) .plain rfl;clear p hc;go_enter Tryz.func323,Tryz.ntmps323;go_wp2_with fail;generalize w.alloc _=w0 at d h f ⊢;have t:=s w0;refine t.o.mono ?_;rintro r w1 ⟨A,c,rfl,m,j⟩;obtain⟨g,rfl,z,B,C,E,l⟩:=hCj m (by omega);have c0:w1.cell? ⟨g,0,none⟩=some (.int .i64 code):=l 0 _ rfl;have c4:w1.cell? ⟨g,4,none⟩=some (.int .u64 (real:Int)):=l 4 _ rfl;have b:=(j.block _ f).trans d.o;have f0:=fun k=>frozen_of_row w1 w.heap.size k _ _ b;have g0:=(zR w1 w.heap.size 0 _ _ _ b).trans rfl;have g1:=(zR w1 w.heap.size 1 _ _ _ b).trans rfl;simp at g0 g1;obtain⟨t1,t2⟩:=hAz w1 w.heap.size _ _ _ (.int .i64 code) (.float .f64 real) b;have i:=h.o.trans (j.mono (Nat.le_of_lt f));have u:=zH t1;have q:=zH (i.trans (hAj t2 i.size (Nat.le_refl _)));clear m j l b t1 t2 i d h f;go_wp2_with fail;refine(y 0 8 w1).o.mono ?_;rintro e wx ⟨rfl,rfl⟩;rw[D.o];go_wp2_with fail;refine(v w1).o.mono ?_;rintro e wx ⟨rfl,rfl⟩;go_wp2_with fail;exact bodyPost_ret (hEf rfl _ _ w.heap.size _ rfl (by rfl) u.o) rfl ⟨rfl,q.o⟩
def clV (k d cd rl:Nat):Value:=if k=0 then .agg #[.int .i64 d,.int .i64 cd,.float .f64 rl] else .agg #[.int .i64 0,.int .i64 0,.float .f64 0]
def clL (d cd rl:Nat):List Value:=[.int .i64 d,.int .i64 cd,.float .f64 rl,.int .i64 0,.int .i64 0,.float .f64 0,.int .i64 0,.int .i64 0,.float .f64 0,.int .i64 0,.int .i64 0,.float .f64 0,.int .i64 0,.int .i64 0,.float .f64 0,.int .i64 0,.int .i64 0,.float .f64 0,.int .i64 0,.int .i64 0,.float .f64 0,.int .i64 0,.int .i64 0,.float .f64 0]
theorem hSd {w:World} {b:Nat} {e:Nat} {A1:Option Addr} {c1:Nat} {A2:Option Addr} {c2 d kb cd rl:Nat} (h:w.heap[b]?=some (.cells (ledC e A1 c1 A2 c2 d kb cd rl) 168 (0,0))):w.rangeAt b 5 (clL d cd rl):=fun j v a=>by
 rw[zR w b (5+j) _ _ _ h,←Array.getElem?_toList,show(ledC e A1 c1 A2 c2 d kb cd rl).toList=[.int .i64 e,.slice A1 4 c1,.slice A2 4 c2,.int .i64 d,.map (some kb)]++clL d cd rl from rfl,List.getElem?_append_right (by simp)];simpa using a
theorem hSe (d cd rl k:Nat) (a:k<8) (w:World):(Instr.index 166 (.agg (clL d cd rl).toArray) (.int .i64 k)).run Tryz.prog w=.ok (clV k d cd rl) w:=by
 obtain rfl | rfl | rfl | rfl | rfl | rfl | rfl | rfl:k=0∨k=1∨k=2∨k=3∨k=4∨k=5∨k=6∨k=7:=by omega
 all_goals kernel_rfl
theorem hYx (d cd rl k:Nat) (a:d≤8) (hc:cd≤8):∃ st co re:Nat,st≤8∧co≤8∧clV k d cd rl=.agg #[.int .i64 st,.int .i64 co,.float .f64 re]∧cliL d cd rl (k+1)=cliL d cd rl k++(be4 st++txL (resT co re)):=by
 by_cases h:k=0
 ·exact⟨d,cd,rl,a,hc,by unfold clV;rw[if_pos h],by(conv=>lhs;unfold cliL);rw[if_pos h]⟩
 ·exact⟨0,0,0,by omega,by omega,by unfold clV;rw[if_neg h];rfl,by(conv=>lhs;unfold cliL);rw[if_neg h]⟩
theorem hVx {w:World} {base:Nat} {e:TypeId} {sz:Nat} {v:Value} {n:Nat} {xs:List Value} (h:w.ownsRow base e sz v n xs):∃ A c,v=.slice A n c:=by
 rcases h.2 with⟨rfl,a⟩ | ⟨g,cap,cur,rfl,_⟩
 ·exact⟨none,0,by rw[a]⟩
 ·exact⟨_,_,rfl⟩
theorem hEy {w:World} {base:Nat} {e:TypeId} {sz n c:Nat} {A:Option Addr} {xs:List Value} (h:w.ownsRow base e sz (.slice A n c) n xs):∀ ad,A=some ad→∃ cs,w.heap[ad.block]?=some (.cells cs e (0,0))∧base≤ad.block:=fun ad ea=>by
 rcases h.2 with⟨a,_⟩ | ⟨g,cap,cur,b,d,f,_⟩
 ·rw[ea] at a;cases a
 ·rw[ea] at b;cases b;exact⟨cur,f,d⟩
theorem hMf (b kb i:Nat) (o:Tags) (rho:Nat→Rq) (hr:ROk rho) (e d:Nat) (he:e≤60) (hd:d≤8) (w:World) (h:LedAt w o i b kb rho e d):Calls Tryz.prog 297 #[.pointer (some ⟨b,0,none⟩)] w fun r w'=>r=.returned (.string (ledT rho e d))∧Below w.heap.size w w':=by
 have bw:=fun w h=>zH (hFg b kb i o rho e d w h);have bE:=zH h;obtain⟨A1,c1,A2,c2,l,bV,Hy⟩:=h.blk;obtain⟨kv,R,m⟩:=h.mp;have t:=l.lt;obtain⟨aZ,b6,bW⟩:=hCb hr d hd;have HJ:(kv.map Prod.fst).Nodup:=hIp R;have cg:kv.length≤8:=by rw[m.length_eq];have:=hCp rho d;omega
 have z:KvOk kv:=fun p f=>aZ p (m.mem_iff.1 f);have HT:zI (ledT rho e d=bs (headLL e d kv.length++keysL kv (sortK kv)++cliL d (hist rho d).2.1 (hist rho d).2.2 8)):=zH (by
  unfold ledT ledL;rw[←m.length_eq,←hRc m,←hQr m HJ])
 generalize ledT rho e d=T at HT ⊢;have aQ:=b6;generalize (hist rho d).2.1=cd at l HT aQ;generalize (hist rho d).2.2=rl at l HT;have E:=zH l.1;have Hw:=R.lt;have Ha:=zH R;obtain⟨B2,off2,rfl,bK,aG⟩:=Hy.1.2.2;have cp:c2≤9223372036854775807:=Hy.1.2.1;have bv:=zH aG;have bC:zI (∀ k,k<kv.length→∃ x,getK kv (bs ((sortK kv).getD k []))=some x∧Real64 x∧1≤((sortK kv).getD k []).length∧((sortK kv).getD k []).length≤16):=zH (fun k hk=>by
  rw[List.getD_eq_getElem?_getD,List.getElem?_eq_getElem (by rw[hA4];exact hk)];exact hKt z HJ (List.getElem_mem _))
 have au:zI (∀ k,(keysL kv ((sortK kv).take k)).length≤26*8):=zH (fun k=>by
  have:=hDs kv ((sortK kv).take k) (fun x hx=>by
   obtain⟨p,f,rfl⟩:=hDt (List.mem_of_mem_take hx);rw[hBd];exact(z p f).2.2)
  have h2:((sortK kv).take k).length≤8:=by rw[List.length_take,hA4];omega
  omega)
 have bx:=fun w A c h=>zH (hF5 e he A c w h);clear h l bV Hy R m aZ b6 bW HJ z aG hr;go_enter Tryz.func297,Tryz.ntmps297;go_wp2_with fail;refine(hPs w).mono ?_;rintro r w1 ⟨rfl,f,aJ⟩;obtain⟨pb,aa⟩:=zN (w.heap.size);have Hb:=zH f;rw[←aa] at Hb ⊢;have q:=zH (Nat.le_of_eq aa.symm);clear aa;have ao:=zH aJ;clear f aJ;go_wp2_with fail;refine(hFj pb _ 76 (by omega) (by simp) w1 Hb.o).mono ?_;rintro r w2 ⟨rfl,f,aK⟩;have ax:=zH f;have W:=zH (ao.o.trans (aK.mono q.o));clear f aK ao Hb;go_wp2_with fail;have Y:=bw w2 (bE.o.fix (P:=fun _=>True) (Fix.same W.o) trivial trivial);refine Y.o.mono ?_;rintro r w3 ⟨A,c,rfl,hm,Ht⟩;have ay:=zH (ax.o.keep Ht);have ap:=zH (zB W.o Ht);have Z:=bx w3 A c hm.1;clear Ht W ax Y hm;go_wp2_with fail;refine Z.o.mono ?_;rintro r w4 ⟨rfl,Hu⟩;have az:=zH (ay.o.keep Hu);have aq:=zH (zB ap.o Hu);clear Hu ap ay Z;go_wp2_with fail;refine(hM6 pb _ (confT e) (by rw[hAv];omega) (by simp[hAv,beL]) w4 az.o).mono ?_;rintro r w5 ⟨rfl,f,aL⟩;have aB:=zH f;have X:=zH (aq.o.trans (aL.mono q.o));clear f aL aq az;have aU:=(X.o.block _ t).trans E.o;have k2:w5.cell? ⟨b,2,none⟩=some (.slice (some ⟨B2,off2,none⟩) 4 c2):=(zR w5 b 2 _ _ _ aU).trans rfl;clear aU;go_wp2_with fail;refine(hFj pb _ 4 (by omega) (by simp[hBb,hAv,beL]) w5 aB.o).mono ?_;rintro r w6 ⟨rfl,f,aM⟩;have bG:=zH f;have ar:=zH (X.o.trans (aM.mono q.o));clear f aM X aB k2;have aV:=(ar.o.block _ t).trans E.o;have k2:w6.cell? ⟨b,2,none⟩=some (.slice (some ⟨B2,off2,none⟩) 4 c2):=(zR w6 b 2 _ _ _ aV).trans rfl;clear aV;go_wp2_with fail;clear k2;go_loopw [7,42] (fun _ j wr=>∃ k:Nat,k≤4∧j=.int .i64 k∧zI (PkR wr pb ([]++beL 1 76++txL (confT e)++beL 1 4++memL k))∧zI (Below w.heap.size w wr)) (fun _ j _=>4 - (intOf j).toNat)
 case atStart=>exact⟨0,by omega,rfl,zH (by simpa[memL] using bG.o),ar⟩
 case round=>
  obtain⟨k,hk,rfl,f,l⟩:=hrel;by_cases hk4:k<4
  ·have n0:(0:Int)≤(k:Int):=by omega
   have n1:(k:Int)<4:=by omega
   have s:=(l.o.cell (p:=⟨B2,off2+k,none⟩) bK).trans (bv.o k hk4);go_wp2_with fail;refine(hFj pb _ k (by omega) (by have:=hMl k;simp[hBb,hAv,beL];omega) wr f.o).mono ?_;rintro r w7 ⟨rfl,b7,aN⟩;have bH:=zH (show PkR w7 pb ([]++beL 1 76++txL (confT e)++beL 1 4++memL (k+1)) by
    rw[hJ8 k hk4,←List.append_assoc];exact b7)
   have bu:=zH (l.o.trans (aN.mono q.o));clear b7 aN f l s;go_wp2_with fail;exact⟨⟨k+1,by omega,by go_num,bH,bu⟩,by simp[intOf];omega⟩
  ·obtain rfl:k=4:=by omega
   clear hk4;have aW:=(l.o.block _ t).trans E.o;have k3:wr.cell? ⟨b,3,none⟩=some (.int .i64 d):=(zR wr b 3 _ _ _ aW).trans rfl;clear aW;go_wp2_with fail;refine(hV0 pb _ d (by omega) (by simp[hBb,hAv,beL,memL]) wr f.o).mono ?_;rintro r w8 ⟨rfl,ba,aO⟩;have aD:=zH ba;have L:=zH (l.o.trans (aO.mono q.o));clear ba aO f l k3;have aX:=(L.o.block _ t).trans E.o;have k4:w8.cell? ⟨b,4,none⟩=some (.map (some kb)):=(zR w8 b 4 _ _ _ aX).trans rfl;have Q:=(Ha.o.move (L.o.block _ Hw)).len Tryz.underlying163 3;rw[show(encK kv).length=kv.length by simp[encK]] at Q;clear aX;go_wp2_with fail;refine(hFj pb _ kv.length (by omega) (by simp[hBb,hAv,beL,memL,be4]) w8 aD.o).mono ?_;rintro r w9 ⟨rfl,bd,aP⟩;have Hh:=zH (show PkR w9 pb (headLL e d kv.length) from bd);have M:=zH (L.o.trans (aP.mono q.o));clear bd aP L aD k4 Q;have aY:=(M.o.block _ t).trans E.o;have k4:w9.cell? ⟨b,4,none⟩=some (.map (some kb)):=(zR w9 b 4 _ _ _ aY).trans rfl;have aw:=Ha.o.move (M.o.block _ Hw);have aF:=zH (hWm kb kv (by omega) w9 aw);have av:=zH (hZa kb w9);clear aY aw;go_wp2_with fail;refine av.o.mono ?_;rintro r w10 ⟨rfl,rfl⟩;clear k4;go_wp2_with fail;refine aF.o.mono ?_;rintro r w11 ⟨v,rfl,B,I⟩;have bm:=zH (Hh.o.keep I);have bh:=zH (zB M.o I);have cj:pb<w9.heap.size:=Hh.o.lt;obtain⟨SA,SC,rfl⟩:=hVx B;have ae:SlD (fun k=>[encStr k]) w11 (fun _=>0) SA kv.length SC (sortK kv):=SlD.of_own (enc:=fun k=>[encStr k]) (by rw[←List.map_eq_flatMap];exact B) (hA4 kv) (fun _=>0) (fun _ _ _=>rfl);have ab:=hEy B;have bY:SC≤9223372036854775807:=ae.2.2.1;have bI:=zH ae;have bq:=zH ab;clear I M Hh aF av B ae ab;go_wp2_with fail;clear bY;go_loopw [9,70] (fun _ j wr=>∃ k:Nat,k≤kv.length∧j=.int .i64 k∧zI (PkR wr pb (headLL e d kv.length++keysL kv ((sortK kv).take k)))∧zI (Below w.heap.size w wr)∧zI (∀ g go fz,SA=some ⟨g,go,fz⟩→wr.heap[g]?=w11.heap[g]?)) (fun _ j _=>kv.length - (intOf j).toNat)
   case atStart=>exact⟨0,by omega,rfl,zH (by simpa[keysL] using bm.o),bh,zH (fun _ _ _ _=>rfl)⟩
   case round=>
    obtain⟨k,hk,rfl,f,l,hx⟩:=hrel;have n0:(0:Int)≤(k:Int):=by omega
    by_cases hk4:k<kv.length
    ·have n1:(k:Int)<(kv.length:Int):=by omega
     obtain⟨x,ag,ak,c9,bg⟩:=bC.o k hk4;obtain⟨SB,so,aH,cx,_,O⟩:=bI.o.at 1 (fun _=>rfl) [] (by omega);have s:w11.cell? ⟨SB,so+k,none⟩=some (.string (bs ((sortK kv).getD k []))):=by
      have:=O k 0 (encStr ((sortK kv).getD k [])) hk4 (by omega) rfl;simpa[bs] using this
     obtain⟨rcs,Hk,bN⟩:=bq.o _ aH;simp only at Hk bN;subst aH;have aI:=hx.o SB so none rfl;have aR:wr.cell? ⟨SB,so+k,none⟩=some (.string (bs ((sortK kv).getD k []))):=by
      unfold World.cell? at s ⊢;rw[aI];exact s
     have bT:(keysL kv ((sortK kv).take k)).length≤26*8:=au.o k;have C:=hQs kv (sortK kv) k (by rw[hA4];exact hk4);rw[ag] at C;have N:=zH C;obtain⟨l1,l2,Hx,_⟩:=hBh ag;generalize hK:bs ((sortK kv).getD k [])=K at aR Hx N;have cn:K.size≤16:=by rw[←hK,hA3];exact bg
     have bP:=ak.1;have ck:=zH ak;have bD:=zH Hx;have bJ:=zH (aI.trans Hk);have bB:(headLL e d kv.length).length=21:=hDa _ _ _;have S:9≠5:=by decide
     clear s O ag ak c9 bg C Hx hK bP;go_wp2_with fail;have cu:(headLL e d kv.length++keysL kv ((sortK kv).take k)).length≤21+26*8:=by rw[List.length_append,bB];omega
     have Hl:SB≠pb:=by omega
     refine(hKe pb _ K (by omega) (by omega) wr f.o).mono ?_;rintro r w12 ⟨rfl,hI,Hm,ah⟩;have Hc:=zH hI;have u:=zH (l.o.trans (Hm.mono q.o));have Hj:=zH (ah SB _ _ _ bJ.o S Hl);clear hI Hm ah f l aR;have Hz:=(u.o.block _ t).trans E.o;have k4:w12.cell? ⟨b,4,none⟩=some (.map (some kb)):=(zR w12 b 4 _ _ _ Hz).trans rfl;have aT:=hAm (w:=w12) (x:=.string K) (v:=.float .f64 x) (l1:=encK l1) (l2:=encK l2) false hBa Tryz.underlying163 (by
      have:=Ha.o.move (u.o.block _ Hw);rw[bD.o] at this;rw[hBr] at this;exact this)
     simp only[Bool.false_eq_true,if_false] at aT;clear Hz;go_wp2_with fail;refine(hD8 x w12).mono ?_;rintro r wx ⟨rfl,rfl⟩;go_wp2_with fail;refine(hTr pb _ (canon x) (by rw[List.length_append,hBb];omega) w12 Hc.o).mono ?_;rintro r w13 ⟨rfl,hJ,Hp,ai⟩;have bo:=zH (show PkR w13 pb (headLL e d kv.length++keysL kv ((sortK kv).take (k+1))) by
      rw[N.o];simpa[List.append_assoc] using hJ)
     have bi:=zH (u.o.trans (Hp.mono q.o));have br:zI (∀ g go fz,(some ⟨SB,so,none⟩:Option Addr)=some ⟨g,go,fz⟩→w13.heap[g]?=w11.heap[g]?):=zH (fun g go fz h=>by
      cases h;exact(ai SB _ _ _ Hj.o S Hl).trans Hk.symm)
     clear hJ Hp ai Hc u Hj k4 aT;go_wp2_with fail;exact⟨⟨k+1,by omega,by go_num,bo,bi,br⟩,by simp[intOf];omega⟩
    ·obtain rfl:k=kv.length:=by omega
     clear hk4;have aE:=zH (show PkR wr pb (headLL e d kv.length++keysL kv (sortK kv)) by
      have:=f.o
      rwa [←hA4 kv,List.take_length,hA4 kv] at this)
     have bM:(headLL e d kv.length++keysL kv (sortK kv)).length≤21+26*8:=by
      have:=au.o kv.length;rw[←hA4 kv,List.take_length] at this;rw[List.length_append,hDa];omega
     have bj:=l;have bO:=zH (hSd ((l.o.block _ t).trans E.o));clear f l hx;generalize headLL e d kv.length++keysL kv (sortK kv)=LL at aE bM HT;go_wp2_with (refine wpList_load_mid (by rfl) 166 (.tmp 89) (by rfl) b 5 (by rfl) _ _ bO.o Tryz.underlying166 rfl (by kernel_rfl) ?_);generalize D:(clL d cd rl).toArray=CV;have bA:=zH D;clear D;go_loopw [11,12,13,91] (fun _ _ _ j wr=>∃ k:Nat,k≤8∧j=.int .i64 k∧zI (PkR wr pb (LL++cliL d cd rl k))∧zI (Below w.heap.size w wr)) (fun _ _ _ j _=>8 - (intOf j).toNat)
     case atStart=>exact⟨0,by omega,rfl,zH (by simpa[cliL] using aE.o),bj⟩
     case round=>
      obtain⟨k,hk,rfl,f,l⟩:=hrel;by_cases hk8:k<8
      ·have n1:(k:Int)<8:=by omega
       obtain⟨st,co,re,cy,bQ,D,aS⟩:=hYx d cd rl k hd aQ;have bS:=fun w=>hSe d cd rl k hk8 w;rw[bA.o,D] at bS;have bz:=zH aS;have O:=hD9 d cd rl k;clear D aS;have F:=zH (l.o.alloc l.o.size (.cells #[.int .i64 st,.int .i64 co,.float .f64 re] 165));have H:=zH (f.o.keep ((Below.refl wr.heap.size wr).alloc (Nat.le_refl _) (.cells #[.int .i64 st,.int .i64 co,.float .f64 re] 165)));have y:=zH (heap_alloc_new wr (.cells #[.int .i64 st,.int .i64 co,.float .f64 re] 165));have bt:wr.heap.size<(wr.alloc (.cells #[.int .i64 st,.int .i64 co,.float .f64 re] 165)).heap.size:=by simp
       have cw:pb<wr.heap.size:=by have:=f.o.lt;exact this
       have bZ:=fun(w:World) (a:Addr) (k:FloatKind) (n:Nat)=>run_store Tryz.prog w a (.float k n) .plain rfl;clear f l;go_wp2_with fail;clear bZ;generalize wr.alloc (.cells #[.int .i64 st,.int .i64 co,.float .f64 re] 165)=w15 at F H y bt ⊢;have ci:(LL++cliL d cd rl k).length≤400:=by rw[List.length_append,O];omega
       have S:165≠5:=by decide
       have c0:=zR w15 wr.heap.size 0 _ _ _ y.o;simp at c0;go_wp2_with fail;refine(hTs pb _ st (by omega) (by omega) w15 H.o).mono ?_;rintro r w16 ⟨rfl,hO,Hq,aj⟩;have Hf:=zH hO;have U:=zH (F.o.trans (Hq.mono q.o));have G:=zH (aj _ _ _ _ y.o S (by omega));clear hO Hq aj H F y c0;have c1:=zR w16 wr.heap.size 1 _ _ _ G.o;have c2:=zR w16 wr.heap.size 2 _ _ _ G.o;simp at c1 c2;go_wp2_with fail;refine(hIa co re bQ w16).mono ?_;rintro r w17 ⟨rfl,J⟩;have Hg:=zH (Hf.o.keep J);have V:=zH (zB U.o J);clear J Hf U G c1 c2;go_wp2_with fail;refine(hM6 pb _ (resT co re) (by rw[hC0];omega) (by rw[List.length_append,hC0];simp[be4];omega) w17 Hg.o).mono ?_;rintro r w18 ⟨rfl,hU,Hr⟩;have bp:=zH (show PkR w18 pb (LL++cliL d cd rl (k+1)) by
        rw[bz.o];simpa[List.append_assoc] using hU)
       have bl:=zH (V.o.trans (Hr.mono q.o));clear hU Hr Hg V;go_wp2_with fail;exact⟨⟨k+1,by omega,by go_num,bp,bl⟩,by simp[intOf];omega⟩
      ·obtain rfl:k=8:=by omega
       clear hk8;go_wp2_with fail;refine(hMz pb _ wr f.o).mono ?_;rintro r wx ⟨rfl,rfl⟩;go_wp2_with fail;go_ret;refine⟨?_,l.o⟩;rw[HT.o];rfl
structure Grow2 (a b:World) (g h:Nat):Prop where
 os:b.os=a.os
 tape:b.tape=a.tape
 output:b.output=a.output
 size:a.heap.size≤b.heap.size
 block:∀ i,i<a.heap.size→i≠g→i≠h→b.heap[i]?=a.heap[i]?
theorem Grow2.trans {a b c:World} {g h:Nat} (x:Grow2 a b g h) (y:Grow2 b c g h):Grow2 a c g h:=
 ⟨y.os.trans x.os,y.tape.trans x.tape,y.output.trans x.output,Nat.le_trans x.size y.size,fun i hi d e=>(y.block i (Nat.lt_of_lt_of_le hi x.size) d e).trans (x.block i hi d e)⟩
theorem Grow2.below {a b:World} {g h:Nat} (x:Below a.heap.size a b):Grow2 a b g h:=⟨x.os,x.tape,x.output,x.size,fun i hi _ _=>x.block i hi⟩
theorem Grow2.left {a b:World} {g h:Nat} (x:a.grownBy b (some g)):Grow2 a b g h:=⟨x.os,x.tape,x.output,x.size,fun i hi c _=>x.block i hi (fun e=>c (Option.some.inj e))⟩
theorem Grow2.right {a b:World} {g h:Nat} (x:a.grownBy b (some h)):Grow2 a b g h:=⟨x.os,x.tape,x.output,x.size,fun i hi _ c=>x.block i hi (fun e=>c (Option.some.inj e))⟩
def ledC2 (e:Nat) (A1:Option Addr) (c1:Nat) (A2:Option Addr) (n2 c2:Nat) (d kb st cd rl:Nat):Array Value:=
 #[.int .i64 e,.slice A1 4 c1,.slice A2 n2 c2,.int .i64 d,.map (some kb),.int .i64 st,.int .i64 cd,.float .f64 rl,.int .i64 0,.int .i64 0,.float .f64 0,.int .i64 0,.int .i64 0,.float .f64 0,.int .i64 0,.int .i64 0,.float .f64 0,.int .i64 0,.int .i64 0,.float .f64 0,.int .i64 0,.int .i64 0,.float .f64 0,.int .i64 0,.int .i64 0,.float .f64 0,.int .i64 0,.int .i64 0,.float .f64 0]
def cliB (d cd rl k:Nat):List UInt8:=if k=0 then be4 d++txL (resT cd rl) else be4 0++txL (resT 0 0)
def restC (d cd rl:Nat):Nat→List UInt8
 |0=>[]
 |m+1=>cliB d cd rl (7 - m)++restC d cd rl m
theorem hT7 (d cd rl:Nat):cliL d cd rl 8=restC d cd rl 8:=by
 simp[cliL,restC,cliB,List.append_assoc]
theorem hQ7 (d cd rl k:Nat) (a:k<8):restC d cd rl (8 - k)=cliB d cd rl k++restC d cd rl (8 - (k+1)):=by
 obtain rfl | rfl | rfl | rfl | rfl | rfl | rfl | rfl:k=0∨k=1∨k=2∨k=3∨k=4∨k=5∨k=6∨k=7:=by omega
 all_goals rfl
def fst3 (k x:Nat):Nat:=if k=0 then 0 else x
theorem hYy (e:Nat) (A1:Option Addr) (c1:Nat) (A2:Option Addr) (c2:Nat) (d kb cd rl k:Nat) (f:k<8) (b:d≤8) (hc:cd≤8) (c:Real64 rl) (a:d=0→cd=0∧rl=0) :
  ∃ st co re:Nat,st≤8∧co≤8∧Real64 re∧(st=0→co=0∧re=0)∧cliB d cd rl k=be4 st++txL (resT co re) ∧
   (((ledC2 e A1 c1 A2 4 c2 d kb (fst3 k d) (fst3 k cd) (fst3 k rl)).setIfInBounds (5+k*3) (.int .i64 st)).setIfInBounds (5+k*3+1) (.int .i64 co)).setIfInBounds (5+k*3+2) (.float .f64 re)=ledC2 e A1 c1 A2 4 c2 d kb (fst3 (k+1) d) (fst3 (k+1) cd) (fst3 (k+1) rl):=by
 by_cases h:k=0
 ·subst h;exact⟨d,cd,rl,b,hc,c,a,rfl,rfl⟩
 ·refine⟨0,0,0,by omega,by omega,Real64.zero,fun _=>⟨rfl,rfl⟩,by unfold cliB;rw[if_neg h],?_⟩;obtain rfl | rfl | rfl | rfl | rfl | rfl | rfl:k=1∨k=2∨k=3∨k=4∨k=5∨k=6∨k=7:=by omega
  all_goals rfl
theorem hJw (w:World) (g off:Nat) (T:TypeId) (cs:Array Value) (a0 a1 a2:Value) (h:w.heap[g]?=some (.cells cs T (0,0))) :
  (((w.setCell ⟨g,off,none⟩ a0).setCell ⟨g,off+1,none⟩ a1).setCell ⟨g,off+2,none⟩ a2).heap[g]?=some (.cells (((cs.setIfInBounds off a0).setIfInBounds (off+1) a1).setIfInBounds (off+2) a2) T (0,0))
  ∧ w.grownBy (((w.setCell ⟨g,off,none⟩ a0).setCell ⟨g,off+1,none⟩ a1).setCell ⟨g,off+2,none⟩ a2) (some g):=by
 have a:=heap_setCell_same w g off _ _ a0 h;have b:=heap_setCell_same _ g (off+1) _ _ a1 a;have c:=heap_setCell_same _ g (off+2) _ _ a2 b;refine⟨c,?_⟩;exact hAb (hAb (hAb (hAa (Below.refl _ _) _) (p:=⟨g,off,none⟩) (.inl rfl) _) (p:=⟨g,off+1,none⟩) (.inl rfl) _) (p:=⟨g,off+2,none⟩) (.inl rfl) _
theorem hFf (e:Nat) (A1:Option Addr) (c1:Nat) (A2:Option Addr) (n2 c2:Nat) (d kb st cd rl k j:Nat) (b:k<8) (a:j<3):∃ v,(ledC2 e A1 c1 A2 n2 c2 d kb st cd rl)[5+k*3+j]?=some v:=by
 have:(ledC2 e A1 c1 A2 n2 c2 d kb st cd rl).size=29:=rfl;exact⟨_,Array.getElem?_eq_getElem (by omega)⟩
theorem hM8 (b rb:Nat) (e:Nat) (A1:Option Addr) (c1:Nat) (A2:Option Addr) (c2:Nat) (d kb cd rl:Nat) (hd:d≤8) (hc:cd≤8) (U:Real64 rl) (h0:d=0→cd=0∧rl=0) (D:b≠rb) (w:World)
  (hl:w.heap[b]?=some (.cells (ledC2 e A1 c1 A2 4 c2 d kb 0 0 0) 168 (0,0))) (hs:Rs w rb (cliL d cd rl 8)) :
  Calls Tryz.prog 311 #[.pointer (some ⟨b,0,none⟩),.pointer (some ⟨rb,0,none⟩)] w fun r w'=>r=.returned (.bool true)∧w'.heap[b]?=some (.cells (ledC2 e A1 c1 A2 4 c2 d kb d cd rl) 168 (0,0))∧Grow2 w w' b rb:=by
 rw[hT7] at hs;have HL:=zH hl;have HS:=zH hs;have Hl:=zH (fun k hk=>hYy e A1 c1 A2 c2 d kb cd rl k hk hd hc U h0);have Hm:=fun code real hc U w=>zH (hO1 code real hc U w);have G:=fun(w:World) (a:Addr) (k:FloatKind) (n:Nat)=>run_store Tryz.prog w a (.float k n) .plain rfl;clear hl hs hd hc U h0;go_enter Tryz.func311,Tryz.ntmps311;go_wp2_with fail;go_loopw [5,6,7,8,9,10] (fun _ _ _ _ _ j wr=>∃ k:Nat,k≤8∧j=.int .i64 k∧zI (Rs wr rb (restC d cd rl (8 - k)))∧zI (wr.heap[b]?=some (.cells (ledC2 e A1 c1 A2 4 c2 d kb (fst3 k d) (fst3 k cd) (fst3 k rl)) 168 (0,0)))∧zI (Grow2 w wr b rb)) (fun _ _ _ _ _ j _=>8 - (intOf j).toNat)
 case atStart=>exact⟨0,by omega,rfl,HS,HL,zH (Grow2.below (Below.refl _ _))⟩
 case round=>
  obtain⟨k,hk,rfl,S,v,Q⟩:=hrel;have q0:(0:Int)≤(k:Int):=by omega
  by_cases hk8:k<8
  ·have q1:(k:Int)<8:=by omega
   obtain⟨st,co,re,ab,Hr,F,Hk,Hb,T⟩:=Hl.o k hk8;have q:=zH T;have x:=hQ7 d cd rl k hk8;rw[Hb,List.append_assoc] at x;have Z:=zH (x ▸ S.o);have Hp:=fun w=>(Hm co re Hr F w);obtain⟨v0,Hg⟩:=hFf e A1 c1 A2 4 c2 d kb (fst3 k d) (fst3 k cd) (fst3 k rl) k 0 hk8 (by omega);obtain⟨v1,Hh⟩:=hFf e A1 c1 A2 4 c2 d kb (fst3 k d) (fst3 k cd) (fst3 k rl) k 1 hk8 (by omega);obtain⟨v2,Hi⟩:=hFf e A1 c1 A2 4 c2 d kb (fst3 k d) (fst3 k cd) (fst3 k rl) k 2 hk8 (by omega);have t:=zH (And.intro Hg (And.intro Hh Hi));have HJ:=zH F;have H:=fun w=>zH (hD8 re w);have N:=F.1;rw[N] at H;clear Hb T x S Hg Hh Hi N F;go_wp2_with fail;refine(hPy rb st (by omega) _ wr Z.o).mono ?_;rintro r w1 ⟨rfl,Hc,O⟩;have Y:=zH Hc;have I:=zH ((O.block b (zL v.o) (fun e=>D (Option.some.inj e))).trans v.o);have V:=zH (Q.o.trans (Grow2.right (g:=b) O));clear Hc O v Q Z;go_wp2_with fail;refine(hJt rb (resT co re) (by rw[hC0];omega) _ w1 Y.o).mono ?_;rintro r w2 ⟨rfl,Hf,P⟩;have L:=zH Hf;have J:=zH ((P.block b (zL I.o) (fun e=>D (Option.some.inj e))).trans I.o);have W:=zH (V.o.trans (Grow2.right (g:=b) P));clear Hf P Y I V;have M:=Hp w2;go_wp2_with fail;refine M.o.mono ?_;rintro r w3 ⟨rfl,m⟩;have E:=(Below.refl w3.heap.size w3).alloc (Nat.le_refl _) (.cells #[.int .i64 co,.float .f64 re] 43);have l:=zH ((L.o.keep m).keep E);have R:=(m.block b (zL J.o)).trans J.o;have Ha:=(zL R);have c:=zH ((E.block b Ha).trans R);have i:=zH ((W.o.trans (Grow2.below m)).trans (Grow2.below E));have f:=zH (heap_alloc_new w3 (.cells #[.int .i64 co,.float .f64 re] 43));obtain⟨xb,u⟩:=zN (w3.heap.size);have hI:b<xb:=by omega
   have hO:rb<xb:=by have:=(L.o.keep m).lt;omega
   clear m E R L J W M Ha;by_cases hs0:st=0
   ·obtain⟨rfl,rfl⟩:=Hk hs0;subst hs0;go_wp2_with fail;rw[←u] at f ⊢;clear u;generalize w3.alloc _=w4 at l c i f ⊢;have x0:=(zR w4 xb 0 _ _ _ f.o).trans rfl;have x1:=(zR w4 xb 1 _ _ _ f.o).trans rfl;simp at x0 x1;refine(H w4).o.mono ?_;rintro r wx ⟨rfl,rfl⟩;clear G;go_wp2_with fail;have G:=fun(w:World) (a:Addr) (k:FloatKind) (n:Nat)=>run_store Tryz.prog w a (.float k n) .plain rfl;have z0:=(zR w4 b (5+k*3) _ _ _ c.o).trans t.o.1;have z1:=(zR w4 b (5+k*3+1) _ _ _ c.o).trans t.o.2.1;have z2:=(zR w4 b (5+k*3+2) _ _ _ c.o).trans t.o.2.2;have zf:=fun k=>frozen_of_row w4 b k _ _ c.o;obtain⟨u1,u2⟩:=hJw w4.drew b (5+k*3) _ _ (.int .i64 (0)) (.int .i64 (0)) (.float .f64 0) (show w4.drew.heap[b]?=_ from c.o);rw[show(((ledC2 e A1 c1 A2 4 c2 d kb (fst3 k d) (fst3 k cd) (fst3 k rl)).setIfInBounds (5+k*3) (.int .i64 (0))).setIfInBounds (5+k*3+1) (.int .i64 (0))).setIfInBounds (5+k*3+2) (.float .f64 0)=_ from q.o] at u1;have C:=zH u1;have s:=zH u2;have K:zI (Rs w4.drew rb (restC d cd rl (8 - (k+1)))):=zH (l.o.keep ⟨rfl,rfl,rfl,Nat.le_refl _,fun _ _=>rfl⟩);have y:zI (Grow2 w w4.drew b rb):=zH (i.o.trans (Grow2.below ⟨rfl,rfl,rfl,Nat.le_refl _,fun _ _=>rfl⟩));clear u1 u2 t q l c f i;have p:rb≠b:=fun e=>D e.symm
    go_region
    all_goals
     have B:=zH (K.o.grown s.o p);have z:=zH (y.o.trans (Grow2.left (h:=rb) s.o));go_wp2_with fail;exact⟨⟨k+1,by omega,by go_num,B,C,z⟩,by simp[intOf];omega⟩
   ·have hU:¬ (st:Int)=0:=by omega
    have aa:¬ (1048576:Int)<(st:Int):=by omega
    by_cases hc0:co=0
    ·subst hc0;go_wp2_with fail;rw[←u] at f ⊢;clear u;generalize w3.alloc _=w4 at l c i f ⊢;have x0:=(zR w4 xb 0 _ _ _ f.o).trans rfl;have x1:=(zR w4 xb 1 _ _ _ f.o).trans rfl;simp at x0 x1;refine(H w4).o.mono ?_;rintro r wx ⟨rfl,rfl⟩;clear G;go_wp2_with fail;have G:=fun(w:World) (a:Addr) (k:FloatKind) (n:Nat)=>run_store Tryz.prog w a (.float k n) .plain rfl;have z0:=(zR w4 b (5+k*3) _ _ _ c.o).trans t.o.1;have z1:=(zR w4 b (5+k*3+1) _ _ _ c.o).trans t.o.2.1;have z2:=(zR w4 b (5+k*3+2) _ _ _ c.o).trans t.o.2.2;have zf:=fun k=>frozen_of_row w4 b k _ _ c.o;obtain⟨u1,u2⟩:=hJw w4.drew b (5+k*3) _ _ (.int .i64 st) (.int .i64 (0)) (.float .f64 re) (show w4.drew.heap[b]?=_ from c.o);rw[show(((ledC2 e A1 c1 A2 4 c2 d kb (fst3 k d) (fst3 k cd) (fst3 k rl)).setIfInBounds (5+k*3) (.int .i64 st)).setIfInBounds (5+k*3+1) (.int .i64 (0))).setIfInBounds (5+k*3+2) (.float .f64 re)=_ from q.o] at u1;have C:=zH u1;have s:=zH u2;have K:zI (Rs w4.drew rb (restC d cd rl (8 - (k+1)))):=zH (l.o.keep ⟨rfl,rfl,rfl,Nat.le_refl _,fun _ _=>rfl⟩);have y:zI (Grow2 w w4.drew b rb):=zH (i.o.trans (Grow2.below ⟨rfl,rfl,rfl,Nat.le_refl _,fun _ _=>rfl⟩));clear u1 u2 t q l c f i;have p:rb≠b:=fun e=>D e.symm
     go_region
     all_goals
      have B:=zH (K.o.grown s.o p);have z:=zH (y.o.trans (Grow2.left (h:=rb) s.o));go_wp2_with fail;exact⟨⟨k+1,by omega,by go_num,B,C,z⟩,by simp[intOf];omega⟩
    ·have hJ:¬ (co:Int)=0:=by omega
     go_wp2_with fail;rw[←u] at f ⊢;clear u;generalize w3.alloc _=w4 at l c i f ⊢;have x0:=(zR w4 xb 0 _ _ _ f.o).trans rfl;have x1:=(zR w4 xb 1 _ _ _ f.o).trans rfl;simp at x0 x1;have z0:=(zR w4 b (5+k*3) _ _ _ c.o).trans t.o.1;have z1:=(zR w4 b (5+k*3+1) _ _ _ c.o).trans t.o.2.1;have z2:=(zR w4 b (5+k*3+2) _ _ _ c.o).trans t.o.2.2;have zf:=fun k=>frozen_of_row w4 b k _ _ c.o;obtain⟨u1,u2⟩:=hJw w4.drew b (5+k*3) _ _ (.int .i64 st) (.int .i64 co) (.float .f64 re) (show w4.drew.heap[b]?=_ from c.o);rw[show(((ledC2 e A1 c1 A2 4 c2 d kb (fst3 k d) (fst3 k cd) (fst3 k rl)).setIfInBounds (5+k*3) (.int .i64 st)).setIfInBounds (5+k*3+1) (.int .i64 co)).setIfInBounds (5+k*3+2) (.float .f64 re)=_ from q.o] at u1;have C:=zH u1;have s:=zH u2;have K:zI (Rs w4.drew rb (restC d cd rl (8 - (k+1)))):=zH (l.o.keep ⟨rfl,rfl,rfl,Nat.le_refl _,fun _ _=>rfl⟩);have y:zI (Grow2 w w4.drew b rb):=zH (i.o.trans (Grow2.below ⟨rfl,rfl,rfl,Nat.le_refl _,fun _ _=>rfl⟩));clear u1 u2 t q l c f i;have p:rb≠b:=fun e=>D e.symm
     go_region
     all_goals
      have B:=zH (K.o.grown s.o p);have z:=zH (y.o.trans (Grow2.left (h:=rb) s.o));go_wp2_with fail;exact⟨⟨k+1,by omega,by go_num,B,C,z⟩,by simp[intOf];omega⟩
  ·obtain rfl:k=8:=by omega
   clear hk8;have HE:=zH (hUb rb wr S.o);have X:zI (wr.heap[b]?=some (.cells (ledC2 e A1 c1 A2 4 c2 d kb d cd rl) 168 (0,0))):=zH v.o;go_wp2_with fail;refine HE.o.mono ?_;rintro r w3 ⟨rfl,m⟩;have c:=zH ((m.block b (zL X.o)).trans X.o);have i:=zH (Q.o.trans (Grow2.below m));clear m;go_wp2_with fail;go_ret;exact⟨rfl,c.o,i.o⟩
end Go.Proofs.YtlibpcllceepkaaGreat
