/- Joined texts of the claim. No condition. -/
import Derived.Test.YtlibpcllceepkaaGreatB07
namespace Go.Proofs.YtlibpcllceepkaaGreat
open Go.RowKit
set_option maxRecDepth 100000
set_option linter.unusedVariables false
set_option linter.unusedSimpArgs false
set_option maxHeartbeats 16000000
noncomputable def addF (a b:Nat):Nat:=Classical.choose (hIi a b)
theorem hP6 (a b:Nat):canon (addF a b)=addF a b:=(Classical.choose_spec (hIi a b)).1.1
theorem hWv {a b:Nat} (c:a<18446744073709551616) (d:b<18446744073709551616):addF a b<18446744073709551616:=(Classical.choose_spec (hIi a b)).1.2 c d
theorem hYr (a b:Nat) (w:World):Calls Tryz.prog 315 #[.float .f64 a,.float .f64 b] w fun e w'=>e=.returned (.float .f64 (addF a b))∧Below w.heap.size w w':=(Classical.choose_spec (hIi a b)).2 w
noncomputable def mostF (a b:Nat):Nat:=Classical.choose (hGv a b)
theorem hOy (a b:Nat):canon (mostF a b)=mostF a b:=(Classical.choose_spec (hGv a b)).1.1
theorem hVt {a b:Nat} (c:a<18446744073709551616) (d:b<18446744073709551616):mostF a b<18446744073709551616:=(Classical.choose_spec (hGv a b)).1.2 c d
theorem hXv (a b:Nat) (w:World):Calls Tryz.prog 316 #[.float .f64 a,.float .f64 b] w fun e w'=>e=.returned (.float .f64 (mostF a b))∧w=w':=(Classical.choose_spec (hGv a b)).2 w
abbrev Kvs:=List (ByteArray×Nat)
def getK:Kvs→ByteArray→Option Nat
 |[],_=>none
 |p::l,s=>if p.1=s then some p.2 else getK l s
def setK:Kvs→ByteArray→Nat→Kvs
 |[],s,v=>[(s,v)]
 |p::l,s,v=>if p.1=s then(s,v)::l else p::setK l s v
def delK:Kvs→ByteArray→Kvs
 |[],_=>[]
 |p::l,s=>if p.1=s then l else p::delK l s
theorem hCu {s:ByteArray}:∀ {l:Kvs},getK l s=none→(∀ p∈l,p.1≠s)∧∀ v,setK l s v=l++[(s,v)]
 |[],_=>⟨by simp,fun v=>rfl⟩
 |p::l,h=>by
  unfold getK at h;split at h
  ·cases h
  ·rename_i a;obtain⟨c,d⟩:=hCu h;refine⟨fun q b=>?_,fun v=>?_⟩
   ·rcases List.mem_cons.1 b with rfl | b
    ·exact a
    ·exact c q b
   ·unfold setK;rw[if_neg a,d];rfl
theorem hBh {s:ByteArray} {x:Nat}:∀ {l:Kvs},getK l s=some x→∃ l1 l2,l=l1++(s,x)::l2∧(∀ v,setK l s v=l1++(s,v)::l2)∧delK l s=l1++l2
 |[],h=>by cases h
 |p::l,h=>by
  unfold getK at h;split at h
  ·rename_i b;cases h;refine⟨[],l,by rw[←b];rfl,fun v=>?_,?_⟩
   ·unfold setK;rw[if_pos b];rfl
   ·unfold delK;rw[if_pos b];rfl
  ·rename_i a;obtain⟨l1,l2,c,d,e⟩:=hBh h;refine⟨p::l1,l2,by rw[c];rfl,fun v=>?_,?_⟩
   ·unfold setK;rw[if_neg a,d];rfl
   ·unfold delK;rw[if_neg a,e];rfl
noncomputable def apK (kv:Kvs) (q:Rq):Kvs×Nat×Nat:=
 match getK kv q.key with
 |none=>if q.kind=1 then(setK kv q.key (canon q.real),0,canon q.real) else(kv,1,0)
 |some x=>
  if q.kind=1 then(setK kv q.key (canon q.real),0,canon q.real) else
  if q.kind=2 then(setK kv q.key (addF x q.real),0,addF x q.real) else
  if q.kind=3 then(setK kv q.key (mostF x q.real),0,mostF x q.real) else
  if q.kind=4 then(delK kv q.key,0,x) else(setK kv q.key x,0,x)
def encK (kv:Kvs):List KV:=kv.map fun p=>(.string p.1,.float .f64 p.2)
theorem hBr (a b:Kvs):encK (a++b)=encK a++encK b:=List.map_append
theorem hGs {l:Kvs} {s:ByteArray} (h:∀ p∈l,p.1≠s):∀ p∈encK l,p.1≠.string s:=fun p a e=>by
 obtain⟨q,b,rfl⟩:=List.mem_map.1 a;injection e with e;exact h q b e
theorem hGu (s:ByteArray) (a:s.size≤maxLen):keyOf Tryz.prog 9 (.string s)=some (.string s.data.toList):=WideMaps.keyOf_string_mk Tryz.underlying9 a
theorem hBa:Maps.Keyed Tryz.prog 9:=Maps.string_keyed Tryz.underlying9
theorem hBi {fn:Func} {p:Tmp} (h:fn.results=#[.cell p 43]) (tmps:Array Value) (w:World) (g:Nat) (cs:Array Value) (e:cs.size=2)
  (d:tmps.getD p undef=.pointer (some ⟨g,0,none⟩)) (b:w.heap[g]?=some (.cells cs 43 (0,0))) :
  (results fn tmps).run Tryz.prog w=.ok (.agg cs) w:=by
 have a:tmps[p]?.getD undef=.pointer (some ⟨g,0,none⟩):=by simpa using d
 have c:=run_loadVar_row (P:=Tryz.prog) w g 43 43 cs (0,0) _ b Tryz.underlying43 rfl (by rw[e];kernel_rfl);simp[results,h,a,asAddr,c]
theorem hB9 {w w1 w2 w3:World} {kb g:Nat} (a:Below w.heap.size w w1) (b:w1.grownBy w2 (some kb)) (c:w2.grownBy w3 (some g)) (h:w.heap.size≤g):w.grownBy w3 (some kb):=
 ⟨c.os.trans (b.os.trans a.os),c.tape.trans (b.tape.trans a.tape),c.output.trans (b.output.trans a.output),Nat.le_trans a.size (Nat.le_trans b.size c.size),fun x d f=>
  ((c.block x (Nat.lt_of_lt_of_le d (Nat.le_trans a.size b.size)) (fun e=>by have:=Option.some.inj e;omega)).trans (b.block x (Nat.lt_of_lt_of_le d a.size) f)).trans (a.block x d)⟩
theorem hOd (w:World):(zeroValue 32).run Tryz.prog w=.ok (.float .f64 0) w:=by kernel_rfl
theorem hUw (b kb:Nat) (kv:Kvs) (key:ByteArray) (S:key.size≤maxLen) (real:Nat) (w:World) (F:b<w.heap.size) (hc:w.cell? ⟨b,4,none⟩=some (.map (some kb))) (h:MpK 9 w kb (encK kv)) (Q:getK kv key=none) (T:kv.length<16) :
  Calls Tryz.prog 300 #[.pointer (some ⟨b,0,none⟩),.agg #[.int .i64 1,.string key,.float .f64 real,.int .i64 0]] w fun e w'=>e=.returned (.agg #[.int .i64 0,.float .f64 (canon real)])∧MpK 9 w' kb (encK (setK kv key (canon real)))∧w.grownBy w' (some kb):=by
 obtain⟨e1,e2⟩:=hCu Q;obtain⟨a1,a2,J,P⟩:=hAp w (.cells #[.int .i64 1,.string key,.float .f64 real,.int .i64 0] 34) (.cells #[.int .i64 0,.float .f64 0] 43);have j:=zH P;have f:=zH a1;have c:=zH a2;have s:=h.lt;have X:=fun(w:World) (a:Addr) (k:FloatKind) (n:Nat)=>run_store Tryz.prog w a (.float k n) .plain rfl;have x:=zH (hGu key S);have m:=zH h;have v:=zH e1;have L:=zH e2;have U:¬ ((encK kv).length:Int)=16:=by unfold encK;rw[List.length_map];omega
 clear h e1 e2 a1 a2 Q P T;go_enter Tryz.func300,Tryz.ntmps300;go_wp2_with fail;generalize World.alloc _ _=w0 at j f c J ⊢;have c4:=(j.o.cell (p:=⟨b,4,none⟩) F).trans hc;have o0:=zR w0 w.heap.size 0 _ _ _ f.o;have o1:=zR w0 w.heap.size 1 _ _ _ f.o;have o2:=zR w0 w.heap.size 2 _ _ _ f.o;have r0:=zR w0 (w.heap.size+1) 0 _ _ _ c.o;have r1:=zR w0 (w.heap.size+1) 1 _ _ _ c.o;have f2:=fun k=>frozen_of_row w0 (w.heap.size+1) k _ _ c.o;simp at o0 o1 o2 r0 r1;have C:=fun n=>m.o.move (w':=w0.drewN n) (j.o.block kb s);have G:=fun n=>hAu true hBa Tryz.underlying163 (hOd _) (C n) x.o (hGs v.o);simp only[if_true] at G;clear C;go_wp2_with fail;go_quiet (fail)
 have l:zI (Below w.heap.size w (w0.drewN nq)):=zH (hAc j.o nq);have i:zI ((w0.drewN nq).heap[w.heap.size+1]?=some (.cells #[.int .i64 0,.float .f64 0] 43 (0,0))):=c;have H:w.heap.size+1<((w0.drewN nq)).heap.size:=J;replace c4:((w0.drewN nq)).cell? ⟨b,4,none⟩=_:=c4;replace o0:((w0.drewN nq)).cell? ⟨w.heap.size,0,none⟩=_:=o0;replace o1:((w0.drewN nq)).cell? ⟨w.heap.size,1,none⟩=_:=o1;replace o2:((w0.drewN nq)).cell? ⟨w.heap.size,2,none⟩=_:=o2;replace r0:((w0.drewN nq)).cell? ⟨w.heap.size+1,0,none⟩=_:=r0;replace r1:((w0.drewN nq)).cell? ⟨w.heap.size+1,1,none⟩=_:=r1;replace f2:∀ k,((w0.drewN nq)).frozen? ⟨w.heap.size+1,k,none⟩=_:=f2;clear j f c J G;generalize w0.drewN nq=w1 at l i H c4 o0 o1 o2 r0 r1 f2 ⊢;have W:=(m.o.move (w':=w1) (l.o.block kb s)).len Tryz.underlying163;go_wp2_with fail;refine(hDh real w1).mono ?_;rintro e w2 ⟨rfl,rfl⟩;have u:=l;have d:=i;have R:=H;obtain⟨y,I⟩:=zN (canon real);rw[←I];have O:=zH I;clear I;have c4:=(u.o.cell (p:=⟨b,4,none⟩) F).trans hc;have r0:=zR w1 (w.heap.size+1) 0 _ _ _ d.o;have r1:=zR w1 (w.heap.size+1) 1 _ _ _ d.o;have f2:=fun k=>frozen_of_row w1 (w.heap.size+1) k _ _ d.o;simp at r0 r1;have q:Below w.heap.size w w1.drew:=hAc u.o 1;have D:=m.o.move (w':=w1.drew) (q.block kb s);obtain⟨w3,V,E,r⟩:=hAs hBa Tryz.underlying163 D x.o (.float .f64 y) (hGs v.o);have z:=zH E;have M:=zH r;have K:=zH q;have t:kb≠w.heap.size+1:=by omega
 have g:=(r.block (w.heap.size+1) (by exact R) (fun e=>t (Option.some.inj e).symm)).trans d.o;obtain⟨s0,s1⟩:=hAz w3 (w.heap.size+1) _ _ _ (.int .i64 0) (.float .f64 y) g;have t0:=zR w3 (w.heap.size+1) 0 _ _ _ g;have t1:=zR w3 (w.heap.size+1) 1 _ _ _ g;have t2:=fun k=>frozen_of_row w3 (w.heap.size+1) k _ _ g;simp at t0 t1;have N:=zH s0;have B:=zH s1;clear D E r q s0 s1 g;go_wp2_with fail;go_region_law (fail)
 all_goals
  go_wp2_with fail;refine bodyPost_ret (hBi rfl _ _ (w.heap.size+1) _ rfl (by rfl) N.o) rfl ⟨by rw[O.o],?_,hB9 K.o M.o B.o (by omega)⟩;rw[L.o,hBr,←O.o];exact z.o.move (B.o.block kb z.o.lt (fun e=>t (Option.some.inj e)))
theorem hUx (k:Int) (y:k=2∨k=3∨k=4∨k=5) (b kb:Nat) (kv:Kvs) (key:ByteArray) (m:key.size≤maxLen) (real:Nat) (w:World) (v:b<w.heap.size) (hc:w.cell? ⟨b,4,none⟩=some (.map (some kb))) (h:MpK 9 w kb (encK kv)) (x:getK kv key=none) :
  Calls Tryz.prog 300 #[.pointer (some ⟨b,0,none⟩),.agg #[.int .i64 k,.string key,.float .f64 real,.int .i64 0]] w fun e w'=>e=.returned (.agg #[.int .i64 1,.float .f64 0])∧Below w.heap.size w w':=by
 obtain⟨e1,e2⟩:=hCu x;obtain⟨a1,a2,q,u⟩:=hAp w (.cells #[.int .i64 k,.string key,.float .f64 real,.int .i64 0] 34) (.cells #[.int .i64 0,.float .f64 0] 43);have g:=zH u;have d:=zH a1;have c:=zH a2;have z:=h.lt;have D:=fun(w:World) (a:Addr) (k:FloatKind) (n:Nat)=>run_store Tryz.prog w a (.float k n) .plain rfl;have s:=zH (hGu key m);have t:=zH h;have r:=zH e1;have C:=zH e2;clear h e1 e2 a1 a2 x u;rcases y with rfl | rfl | rfl | rfl;all_goals
  go_enter Tryz.func300,Tryz.ntmps300;go_wp2_with fail;generalize World.alloc _ _=w0 at g d c q ⊢;have c4:=(g.o.cell (p:=⟨b,4,none⟩) v).trans hc;have o0:=zR w0 w.heap.size 0 _ _ _ d.o;have o1:=zR w0 w.heap.size 1 _ _ _ d.o;have o2:=zR w0 w.heap.size 2 _ _ _ d.o;have r0:=zR w0 (w.heap.size+1) 0 _ _ _ c.o;have r1:=zR w0 (w.heap.size+1) 1 _ _ _ c.o;have f2:=fun k=>frozen_of_row w0 (w.heap.size+1) k _ _ c.o;simp at o0 o1 o2 r0 r1;have j:=fun n=>t.o.move (w':=w0.drewN n) (g.o.block kb z);have l:=fun n=>hAu true hBa Tryz.underlying163 (hOd _) (j n) s.o (hGs r.o);simp only[if_true] at l;clear j;go_wp2_with fail;go_quiet (fail)
  have i:zI (Below w.heap.size w (w0.drewN nq)):=zH (hAc g.o nq);have f:zI ((w0.drewN nq).heap[w.heap.size+1]?=some (.cells #[.int .i64 0,.float .f64 0] 43 (0,0))):=c;have B:w.heap.size+1<((w0.drewN nq)).heap.size:=q;replace c4:((w0.drewN nq)).cell? ⟨b,4,none⟩=_:=c4;replace o0:((w0.drewN nq)).cell? ⟨w.heap.size,0,none⟩=_:=o0;replace o1:((w0.drewN nq)).cell? ⟨w.heap.size,1,none⟩=_:=o1;replace o2:((w0.drewN nq)).cell? ⟨w.heap.size,2,none⟩=_:=o2;replace r0:((w0.drewN nq)).cell? ⟨w.heap.size+1,0,none⟩=_:=r0;replace r1:((w0.drewN nq)).cell? ⟨w.heap.size+1,1,none⟩=_:=r1;replace f2:∀ k,((w0.drewN nq)).frozen? ⟨w.heap.size+1,k,none⟩=_:=f2;clear g d c q l;generalize w0.drewN nq=w1 at i f B c4 o0 o1 o2 r0 r1 f2 ⊢;go_wp2_with fail;obtain⟨s0,s1⟩:=hAz w1 (w.heap.size+1) _ _ _ (.int .i64 1) (.float .f64 0) f.o;exact bodyPost_ret (hBi rfl _ _ (w.heap.size+1) _ rfl (by rfl) s0) rfl ⟨rfl,i.o.grown s1 i.o.size (fun kk m=>by have h:=Option.some.inj m;omega)⟩
theorem hDr (k:Int) (F:Nat) (R:Kvs) (b kb:Nat) (kv:Kvs) (key:ByteArray) (X:key.size≤maxLen) (real:Nat) (x:Nat) (w:World) (I:b<w.heap.size) (hc:w.cell? ⟨b,4,none⟩=some (.map (some kb))) (h:MpK 9 w kb (encK kv)) (V:getK kv key=some x) (W:k=1∧canon real=F∧setK kv key (canon real)=R∨k=2∧addF x real=F∧setK kv key (addF x real)=R∨k=3∧mostF x real=F∧setK kv key (mostF x real)=R∨k=4∧x=F∧delK kv key=R∨k=5∧x=F∧setK kv key x=R) :
  Calls Tryz.prog 300 #[.pointer (some ⟨b,0,none⟩),.agg #[.int .i64 k,.string key,.float .f64 real,.int .i64 0]] w fun e w'=>e=.returned (.agg #[.int .i64 0,.float .f64 F])∧MpK 9 w' kb (encK R)∧w.grownBy w' (some kb):=by
 obtain⟨l1,l2,e1,e2,e3⟩:=hBh V;have P:=h;rw[e1,hBr] at P;have P:MpK 9 w kb (encK l1++(.string key,.float .f64 x)::encK l2):=P;obtain⟨a1,a2,T,M⟩:=hAp w (.cells #[.int .i64 k,.string key,.float .f64 real,.int .i64 0] 34) (.cells #[.int .i64 0,.float .f64 0] 43);have O:=zH M;have L:=zH a1;have E:=zH a2;have J:=h.lt;have Z:=fun(w:World) (a:Addr) (k:FloatKind) (n:Nat)=>run_store Tryz.prog w a (.float k n) .plain rfl;have Y:=zH (hGu key X);have H:=zH P;have N:=zH e2;have U:=zH e3;clear h P e1 e2 e3 a1 a2 V M;rcases W with⟨rfl,rfl,rfl⟩ | ⟨rfl,rfl,rfl⟩ | ⟨rfl,rfl,rfl⟩ | ⟨rfl,rfl,rfl⟩ | ⟨rfl,rfl,rfl⟩;all_goals
  go_enter Tryz.func300,Tryz.ntmps300;go_wp2_with fail;generalize World.alloc _ _=w0 at O L E T ⊢;have c4:=(O.o.cell (p:=⟨b,4,none⟩) I).trans hc;have o0:=zR w0 w.heap.size 0 _ _ _ L.o;have o1:=zR w0 w.heap.size 1 _ _ _ L.o;have o2:=zR w0 w.heap.size 2 _ _ _ L.o;have r0:=zR w0 (w.heap.size+1) 0 _ _ _ E.o;have r1:=zR w0 (w.heap.size+1) 1 _ _ _ E.o;have f2:=fun k=>frozen_of_row w0 (w.heap.size+1) k _ _ E.o;simp at o0 o1 o2 r0 r1;have Q:=fun n=>H.o.move (w':=w0.drewN n) (O.o.block kb J);have S:=fun n=>hAm true hBa Tryz.underlying163 (Q n);simp only[if_true] at S;clear Q;go_wp2_with fail;go_quiet (fail)
  have G:zI (Below w.heap.size w (w0.drewN nq)):=zH (hAc O.o nq);have B:zI ((w0.drewN nq).heap[w.heap.size+1]?=some (.cells #[.int .i64 0,.float .f64 0] 43 (0,0))):=E;have C:w.heap.size+1<((w0.drewN nq)).heap.size:=T;replace c4:((w0.drewN nq)).cell? ⟨b,4,none⟩=_:=c4;replace o0:((w0.drewN nq)).cell? ⟨w.heap.size,0,none⟩=_:=o0;replace o1:((w0.drewN nq)).cell? ⟨w.heap.size,1,none⟩=_:=o1;replace o2:((w0.drewN nq)).cell? ⟨w.heap.size,2,none⟩=_:=o2;replace r0:((w0.drewN nq)).cell? ⟨w.heap.size+1,0,none⟩=_:=r0;replace r1:((w0.drewN nq)).cell? ⟨w.heap.size+1,1,none⟩=_:=r1;replace f2:∀ k,((w0.drewN nq)).frozen? ⟨w.heap.size+1,k,none⟩=_:=f2;clear O L E T S;generalize w0.drewN nq=w1 at G B C c4 o0 o1 o2 r0 r1 f2 ⊢;go_wp2_with fail
 ·refine(hDh real w1).mono ?_;rintro e w2 ⟨rfl,rfl⟩;have j:=G;have c:=B;have z:=C;obtain⟨y,s⟩:=zN (canon real);rw[←s];have D:=zH s;clear s;have c4:=(j.o.cell (p:=⟨b,4,none⟩) I).trans hc;have r0:=zR w1 (w.heap.size+1) 0 _ _ _ c.o;have r1:=zR w1 (w.heap.size+1) 1 _ _ _ c.o;have f2:=fun k=>frozen_of_row w1 (w.heap.size+1) k _ _ c.o;simp at r0 r1;have f:Below w.heap.size w w1.drew:=hAc j.o 1;have q:=H.o.move (w':=w1.drew) (f.block kb J);obtain⟨w3,K,r,g⟩:=hDg hBa Tryz.underlying163 q (.float .f64 y);have l:=zH r;have u:=zH g;have t:=zH f;have i:kb≠w.heap.size+1:=by omega
  have d:=(g.block (w.heap.size+1) (by exact z) (fun e=>i (Option.some.inj e).symm)).trans c.o;obtain⟨s0,s1⟩:=hAz w3 (w.heap.size+1) _ _ _ (.int .i64 0) (.float .f64 y) d;have t0:=zR w3 (w.heap.size+1) 0 _ _ _ d;have t1:=zR w3 (w.heap.size+1) 1 _ _ _ d;have t2:=fun k=>frozen_of_row w3 (w.heap.size+1) k _ _ d;simp at t0 t1;have v:=zH s0;have m:=zH s1;clear q r g f s0 s1 d;go_wp2_with fail;go_region_law (fail)
  all_goals
   go_wp2_with fail;refine bodyPost_ret (hBi rfl _ _ (w.heap.size+1) _ rfl (by rfl) v.o) rfl ⟨by rw[D.o],?_,hB9 t.o u.o m.o (by omega)⟩;rw[N.o,hBr,←D.o];exact l.o.move (m.o.block kb l.o.lt (fun e=>i (Option.some.inj e)))
 ·refine(hYr x real w1).mono ?_;rintro e w2 ⟨rfl,M⟩;have j:=zH (zB G.o M);have c:=zH ((M.block _ C).trans B.o);have z:=Nat.lt_of_lt_of_le C M.size;have o1:=(M.cell (p:=⟨w.heap.size,1,none⟩) (by simp only;omega)).trans o1;clear M;obtain⟨y,s⟩:=zN (addF x real);rw[←s];have D:=zH s;clear s;have c4:=(j.o.cell (p:=⟨b,4,none⟩) I).trans hc;have r0:=zR w2 (w.heap.size+1) 0 _ _ _ c.o;have r1:=zR w2 (w.heap.size+1) 1 _ _ _ c.o;have f2:=fun k=>frozen_of_row w2 (w.heap.size+1) k _ _ c.o;simp at r0 r1;have f:Below w.heap.size w w2.drew:=hAc j.o 1;have q:=H.o.move (w':=w2.drew) (f.block kb J);obtain⟨w3,K,r,g⟩:=hDg hBa Tryz.underlying163 q (.float .f64 y);have l:=zH r;have u:=zH g;have t:=zH f;have i:kb≠w.heap.size+1:=by omega
  have d:=(g.block (w.heap.size+1) (by exact z) (fun e=>i (Option.some.inj e).symm)).trans c.o;obtain⟨s0,s1⟩:=hAz w3 (w.heap.size+1) _ _ _ (.int .i64 0) (.float .f64 y) d;have t0:=zR w3 (w.heap.size+1) 0 _ _ _ d;have t1:=zR w3 (w.heap.size+1) 1 _ _ _ d;have t2:=fun k=>frozen_of_row w3 (w.heap.size+1) k _ _ d;simp at t0 t1;have v:=zH s0;have m:=zH s1;clear q r g f s0 s1 d;go_wp2_with fail;go_region_law (fail)
  all_goals
   go_wp2_with fail;refine bodyPost_ret (hBi rfl _ _ (w.heap.size+1) _ rfl (by rfl) v.o) rfl ⟨by rw[D.o],?_,hB9 t.o u.o m.o (by omega)⟩;rw[N.o,hBr,←D.o];exact l.o.move (m.o.block kb l.o.lt (fun e=>i (Option.some.inj e)))
 ·refine(hXv x real w1).mono ?_;rintro e w2 ⟨rfl,rfl⟩;have j:=G;have c:=B;have z:=C;obtain⟨y,s⟩:=zN (mostF x real);rw[←s];have D:=zH s;clear s;have c4:=(j.o.cell (p:=⟨b,4,none⟩) I).trans hc;have r0:=zR w1 (w.heap.size+1) 0 _ _ _ c.o;have r1:=zR w1 (w.heap.size+1) 1 _ _ _ c.o;have f2:=fun k=>frozen_of_row w1 (w.heap.size+1) k _ _ c.o;simp at r0 r1;have f:Below w.heap.size w w1.drew:=hAc j.o 1;have q:=H.o.move (w':=w1.drew) (f.block kb J);obtain⟨w3,K,r,g⟩:=hDg hBa Tryz.underlying163 q (.float .f64 y);have l:=zH r;have u:=zH g;have t:=zH f;have i:kb≠w.heap.size+1:=by omega
  have d:=(g.block (w.heap.size+1) (by exact z) (fun e=>i (Option.some.inj e).symm)).trans c.o;obtain⟨s0,s1⟩:=hAz w3 (w.heap.size+1) _ _ _ (.int .i64 0) (.float .f64 y) d;have t0:=zR w3 (w.heap.size+1) 0 _ _ _ d;have t1:=zR w3 (w.heap.size+1) 1 _ _ _ d;have t2:=fun k=>frozen_of_row w3 (w.heap.size+1) k _ _ d;simp at t0 t1;have v:=zH s0;have m:=zH s1;clear q r g f s0 s1 d;go_wp2_with fail;go_region_law (fail)
  all_goals
   go_wp2_with fail;refine bodyPost_ret (hBi rfl _ _ (w.heap.size+1) _ rfl (by rfl) v.o) rfl ⟨by rw[D.o],?_,hB9 t.o u.o m.o (by omega)⟩;rw[N.o,hBr,←D.o];exact l.o.move (m.o.block kb l.o.lt (fun e=>i (Option.some.inj e)))
 ·have j:=G;have c:=B;have z:=C;obtain⟨y,s⟩:=zN (x);have D:=zH s;have c4:=(j.o.cell (p:=⟨b,4,none⟩) I).trans hc;have r0:=zR w1 (w.heap.size+1) 0 _ _ _ c.o;have r1:=zR w1 (w.heap.size+1) 1 _ _ _ c.o;have f2:=fun k=>frozen_of_row w1 (w.heap.size+1) k _ _ c.o;simp at r0 r1;have f:Below w.heap.size w w1.drew:=hAc j.o 1;have q:=H.o.move (w':=w1.drew) (f.block kb J);obtain⟨w3,K,r,g⟩:=hWe hBa Tryz.underlying163 q 0;have l:=zH r;have u:=zH g;have t:=zH f;have i:kb≠w.heap.size+1:=by omega
  have d:=(g.block (w.heap.size+1) (by exact z) (fun e=>i (Option.some.inj e).symm)).trans c.o;obtain⟨s0,s1⟩:=hAz w3 (w.heap.size+1) _ _ _ (.int .i64 0) (.float .f64 y) d;have t0:=zR w3 (w.heap.size+1) 0 _ _ _ d;have t1:=zR w3 (w.heap.size+1) 1 _ _ _ d;have t2:=fun k=>frozen_of_row w3 (w.heap.size+1) k _ _ d;simp at t0 t1;have v:=zH s0;have m:=zH s1;clear q r g f s0 s1 d;obtain rfl:y=x:=s;go_wp2_with fail;go_region_law (fail)
  all_goals
   go_wp2_with fail;refine bodyPost_ret (hBi rfl _ _ (w.heap.size+1) _ rfl (by rfl) v.o) rfl ⟨rfl,?_,hB9 t.o u.o m.o (by omega)⟩;rw[U.o,hBr];exact l.o.move (m.o.block kb l.o.lt (fun e=>i (Option.some.inj e)))
 ·have j:=G;have c:=B;have z:=C;obtain⟨y,s⟩:=zN (x);have D:=zH s;have c4:=(j.o.cell (p:=⟨b,4,none⟩) I).trans hc;have r0:=zR w1 (w.heap.size+1) 0 _ _ _ c.o;have r1:=zR w1 (w.heap.size+1) 1 _ _ _ c.o;have f2:=fun k=>frozen_of_row w1 (w.heap.size+1) k _ _ c.o;simp at r0 r1;have f:Below w.heap.size w w1.drew:=hAc j.o 1;have q:=H.o.move (w':=w1.drew) (f.block kb J);obtain⟨w3,K,r,g⟩:=hDg hBa Tryz.underlying163 q (.float .f64 y);have l:=zH r;have u:=zH g;have t:=zH f;have i:kb≠w.heap.size+1:=by omega
  have d:=(g.block (w.heap.size+1) (by exact z) (fun e=>i (Option.some.inj e).symm)).trans c.o;obtain⟨s0,s1⟩:=hAz w3 (w.heap.size+1) _ _ _ (.int .i64 0) (.float .f64 y) d;have t0:=zR w3 (w.heap.size+1) 0 _ _ _ d;have t1:=zR w3 (w.heap.size+1) 1 _ _ _ d;have t2:=fun k=>frozen_of_row w3 (w.heap.size+1) k _ _ d;simp at t0 t1;have v:=zH s0;have m:=zH s1;clear q r g f s0 s1 d;obtain rfl:y=x:=s;go_wp2_with fail;go_region_law (fail)
  all_goals
   go_wp2_with fail;refine bodyPost_ret (hBi rfl _ _ (w.heap.size+1) _ rfl (by rfl) v.o) rfl ⟨rfl,?_,hB9 t.o u.o m.o (by omega)⟩;rw[N.o,hBr];exact l.o.move (m.o.block kb l.o.lt (fun e=>i (Option.some.inj e)))
theorem hWh (l:Kvs) (s:ByteArray) (v:Nat):(setK l s v).length≤l.length+1:=by
 induction l with
 |nil=>simp[setK]
 |cons p l ih=>
  unfold setK;split
  ·simp
  ·simp;omega
theorem hU9 (l:Kvs) (s:ByteArray):(delK l s).length≤l.length:=by
 induction l with
 |nil=>simp[delK]
 |cons p l ih=>
  unfold delK;split
  ·simp
  ·simp;omega
theorem hWx (kv:Kvs) (q:Rq):(apK kv q).1.length≤kv.length+1:=by
 unfold apK;have a:=fun v=>hWh kv q.key v;have b:=hU9 kv q.key;split
 ·split
  ·exact a _
  ·simp
 ·split
  ·exact a _
  ·split
   ·exact a _
   ·split
    ·exact a _
    ·split
     ·simp only;omega
     ·exact a _
noncomputable def hist (rho:Nat→Rq):Nat→Kvs×Nat×Nat
 |0=>([],0,0)
 |n+1=>apK (hist rho n).1 (rho (n+1))
theorem hCp (rho:Nat→Rq):∀ n,(hist rho n).1.length≤n
 |0=>Nat.le_refl _
 |n+1=>by
  have:=hCp rho n;have:=hWx (hist rho n).1 (rho (n+1));show(apK _ _).1.length≤_;omega
theorem hFb {s:ByteArray} {x:Nat}:∀ {l:Kvs},(l.map Prod.fst).Nodup→(s,x)∈l→getK l s=some x
 |[],_,h=>by simp at h
 |p::l,hn,h=>by
  unfold getK;simp only[List.map_cons,List.nodup_cons] at hn;rcases List.mem_cons.1 h with rfl | h
  ·rw[if_pos rfl]
  ·rw[if_neg (fun e=>hn.1 (List.mem_map.2 ⟨(s,x),h,e.symm⟩))];exact hFb hn.2 h
theorem hF6 {l m:Kvs} (a:l.Perm m) (c:(l.map Prod.fst).Nodup) (s:ByteArray):getK l s=getK m s:=by
 have b:(m.map Prod.fst).Nodup:=(a.map _).nodup_iff.1 c;cases h:getK l s with
 |none=>
  cases h':getK m s with
  |none=>rfl
  |some x=>
   obtain⟨l1,l2,e,_⟩:=hBh h';exact absurd rfl ((hCu h).1 (s,x) (a.mem_iff.2 (by rw[e];simp)))
 |some x=>
  obtain⟨l1,l2,e,_⟩:=hBh h;exact(hFb b (a.mem_iff.1 (by rw[e];simp))).symm
theorem hUd {l m:Kvs} (d:l.Perm m) (f:(l.map Prod.fst).Nodup) (s:ByteArray):(∀ v,(setK l s v).Perm (setK m s v))∧(∀ x,getK l s=some x→(delK l s).Perm (delK m s)):=by
 have a:=hF6 d f s;cases h:getK l s with
 |none=>
  have b:=(hCu h).2;rw[h] at a;have c:=(hCu a.symm).2;exact⟨fun v=>by rw[b,c];exact d.append_right _,fun x g=>by cases g⟩
 |some x=>
  rw[h] at a;obtain⟨l1,l2,e1,e2,e3⟩:=hBh h;obtain⟨m1,m2,f1,f2,f3⟩:=hBh a.symm;have e:(l1++l2).Perm (m1++m2):=by
   have b:l.Perm ((s,x)::(l1++l2)):=by rw[e1];exact List.perm_middle
   have c:m.Perm ((s,x)::(m1++m2)):=by rw[f1];exact List.perm_middle
   exact((b.symm.trans d).trans c).cons_inv
  exact⟨fun v=>by rw[e2,f2];exact(List.perm_middle.trans (e.cons _)).trans List.perm_middle.symm,fun y _=>by rw[e3,f3];exact e⟩
theorem hUv {l m:Kvs} (b:l.Perm m) (c:(l.map Prod.fst).Nodup) (q:Rq):(apK l q).2=(apK m q).2∧(apK l q).1.Perm (apK m q).1:=by
 have e:=hF6 b c q.key;obtain⟨a,d⟩:=hUd b c q.key;unfold apK;rw[←e];cases h:getK l q.key with
 |none=>
  simp only;split
  ·exact⟨rfl,a _⟩
  ·exact⟨rfl,b⟩
 |some x=>
  simp only;split
  ·exact⟨rfl,a _⟩
  ·split
   ·exact⟨rfl,a _⟩
   ·split
    ·exact⟨rfl,a _⟩
    ·split
     ·exact⟨rfl,d x h⟩
     ·exact⟨rfl,a _⟩
theorem hIp {k:TypeId} {w:World} {b:Nat} {l:Kvs} (h:MpK k w b (encK l)):(l.map Prod.fst).Nodup:=by
 obtain⟨es,cl,_,_,_,a,_⟩:=h;have e:(encK l).map Prod.fst=(l.map Prod.fst).map Value.string:=by simp[encK]
 rw[e] at a;rw[List.Nodup,List.pairwise_map] at a;exact a.imp fun h e=>h (by rw[e])
def ledC (e:Nat) (A1:Option Addr) (c1:Nat) (A2:Option Addr) (c2:Nat) (d kb cd rl:Nat):Array Value:=
 #[.int .i64 e,.slice A1 4 c1,.slice A2 4 c2,.int .i64 d,.map (some kb),.int .i64 d,.int .i64 cd,.float .f64 rl,.int .i64 0,.int .i64 0,.float .f64 0,.int .i64 0,.int .i64 0,.float .f64 0,.int .i64 0,.int .i64 0,.float .f64 0,.int .i64 0,.int .i64 0,.float .f64 0,.int .i64 0,.int .i64 0,.float .f64 0,.int .i64 0,.int .i64 0,.float .f64 0,.int .i64 0,.int .i64 0,.float .f64 0]
structure LedAt (w:World) (o:Tags) (i b kb:Nat) (rho:Nat→Rq) (e d:Nat):Prop where
 blk:∃ A1 c1 A2 c2,Blk w o i b 168 (ledC e A1 c1 A2 c2 d kb (hist rho d).2.1 (hist rho d).2.2)∧MemD w o A1 c1∧MemD w o A2 c2
 mp:∃ kv,MpK 9 w kb (encK kv)∧kv.Perm (hist rho d).1
 tag:o kb=i
theorem LedAt.lt {w:World} {o:Tags} {i b kb:Nat} {rho:Nat→Rq} {e d:Nat} (h:LedAt w o i b kb rho e d):b<w.heap.size:=by
 obtain⟨A1,c1,A2,c2,a,_⟩:=h.blk;exact a.lt
theorem LedAt.fix {P:Nat→Prop} {o o':Tags} {w w':World} {i b kb:Nat} {rho:Nat→Rq} {e d:Nat} (h:LedAt w o i b kb rho e d) (f:Fix P o o' w w') (hi:P i) (c:P 0):LedAt w' o' i b kb rho e d:=by
 obtain⟨A1,c1,A2,c2,l,j,k⟩:=h.blk;have a:=h.tag;obtain⟨kv,g,m⟩:=h.mp;exact⟨⟨A1,c1,A2,c2,l.fix f hi,j.fix f c,k.fix f c⟩,⟨kv,g.fix f (by rw[a];exact hi),m⟩,by rw[(f.block kb g.lt (by rw[a];exact hi)).1];exact a⟩
theorem hHu (b kb i:Nat) (o:Tags) (rho:Nat→Rq) (e d:Nat) (j:e≤60) (g:d≤1000) (w:World) (h:LedAt w o i b kb rho e d):Calls Tryz.prog 276 #[.pointer (some ⟨b,0,none⟩)] w fun r w'=>r=.returned (.bool (decide (d=4*(e+1))))∧Below w.heap.size w w':=by
 obtain⟨A1,c1,A2,c2,a,_⟩:=h.blk;have k0:w.cell? ⟨b,0,none⟩=some (.int .i64 e):=(zR w b 0 _ _ _ a.1).trans rfl;have k3:w.cell? ⟨b,3,none⟩=some (.int .i64 d):=(zR w b 3 _ _ _ a.1).trans rfl;have n1:(0:Int)≤(e:Int):=by omega
 have n2:(e:Int)≤60:=by omega
 have c:decide (d=4*(e+1))=((d:Int) == ((e:Int)+1)*4):=by
  by_cases hh:d=4*(e+1)
  ·rw[decide_eq_true hh,eq_comm,beq_iff_eq];omega
  ·rw[decide_eq_false hh,eq_comm,beq_eq_false_iff_ne];omega
 rw[c];obtain⟨t,f⟩:∃ t,((d:Int) == ((e:Int)+1)*4)=t:=⟨_,rfl⟩;rw[f];clear h a c;cases t with
 |true=>
  go_enter Tryz.func276,Tryz.ntmps276;go_wp2_with fail;go_quiet (fail)
  go_wp2_with fail;go_ret;exact⟨rfl,hAc (Below.refl _ _) nq⟩
 |false=>
  go_enter Tryz.func276,Tryz.ntmps276;go_wp2_with fail;go_quiet (fail)
  go_wp2_with fail;go_ret;exact⟨rfl,hAc (Below.refl _ _) nq⟩
theorem hBu (b kb i:Nat) (o:Tags) (rho:Nat→Rq) (e d:Nat) (w:World) (h:LedAt w o i b kb rho e d):Calls Tryz.prog 41 #[.pointer (some ⟨b,0,none⟩)] w fun r w'=>r=.returned (.int .i64 d)∧w=w':=by
 obtain⟨A1,c1,A2,c2,a,_⟩:=h.blk;have k3:w.cell? ⟨b,3,none⟩=some (.int .i64 d):=(zR w b 3 _ _ _ a.1).trans rfl;clear h a;go_enter Tryz.func41,Tryz.ntmps41;go_wp2_with fail;go_ret;exact⟨rfl,rfl⟩
theorem hLg {fn:Func} {p:Tmp} (h:fn.results=#[.cell p 31]) (tmps:Array Value) (w:World) (g:Nat) (cs:Array Value) (e:cs.size=2)
  (d:tmps.getD p undef=.pointer (some ⟨g,0,none⟩)) (b:w.heap[g]?=some (.cells cs 31 (0,0))) :
  (results fn tmps).run Tryz.prog w=.ok (.agg cs) w:=by
 have a:tmps[p]?.getD undef=.pointer (some ⟨g,0,none⟩):=by simpa using d
 have c:=run_loadVar_row (P:=Tryz.prog) w g 31 31 cs (0,0) _ b Tryz.underlying31 rfl (by rw[e];kernel_rfl);simp[results,h,a,asAddr,c]
theorem hFg (b kb i:Nat) (o:Tags) (rho:Nat→Rq) (e d:Nat) (w:World) (h:LedAt w o i b kb rho e d):Calls Tryz.prog 71 #[.pointer (some ⟨b,0,none⟩)] w fun r w'=>∃ A c,r=.returned (.agg #[.int .i64 e,.slice A 4 c])∧MemN w' w.heap.size A c∧Below w.heap.size w w':=by
 obtain⟨A1,c1,A2,c2,m,z,_⟩:=h.blk;have q:=m.lt;have k0:w.cell? ⟨b,0,none⟩=some (.int .i64 e):=(zR w b 0 _ _ _ m.1).trans rfl;have k1:w.cell? ⟨b,1,none⟩=some (.slice A1 4 c1):=(zR w b 1 _ _ _ m.1).trans rfl;have j:Below w.heap.size w (w.alloc (.cells #[.int .i64 0,.slice none 0 0] 31)):=(Below.refl _ _).alloc (Nat.le_refl _) _;have l:=zH j;have v:=zH (heap_alloc_new w (.cells #[.int .i64 0,.slice none 0 0] 31));have D:w.heap.size<(w.alloc (.cells #[.int .i64 0,.slice none 0 0] 31)).heap.size:=by simp
 have u:=zH (z.1.keep j);have t:=fun w h=>zH (clone4 A1 c1 w h);clear h m j z;go_enter Tryz.func71,Tryz.ntmps71;go_wp2_with fail;generalize w.alloc _=w0 at l v u D ⊢;have j0:=(l.o.cell (p:=⟨b,0,none⟩) q).trans k0;have j1:=(l.o.cell (p:=⟨b,1,none⟩) q).trans k1;have y:b<w0.heap.size:=by omega
 have s:=t w0.drew (u.o.keep ⟨rfl,rfl,rfl,Nat.le_refl _,fun _ _=>rfl⟩);go_wp2_with fail;go_region_law (first
  |(go_simp;go_at_call 43;refine s.o.mono ?_;rintro r w2 ⟨A2,C2,rfl,B,a⟩;have f:Below w0.heap.size w0 w2:=⟨a.os,a.tape,a.output,a.size,a.block⟩;have e0:=(f.cell (p:=⟨b,0,none⟩) y).trans j0;have g:=(f.block _ D).trans v.o;have t0:=zR w2 w.heap.size 0 _ _ _ g;have t1:=zR w2 w.heap.size 1 _ _ _ g;have t2:=fun k=>frozen_of_row w2 w.heap.size k _ _ g;simp at t0 t1))
 all_goals
  have n:=zB l.o f;obtain⟨s0,s1⟩:=hAz w2 w.heap.size _ _ _ (.int .i64 e) (.slice A2 4 C2) g;have x:=n.grown s1 n.size (fun kk E=>by have h:=Option.some.inj E;omega);have C:MemN ((w2.setCell ⟨w.heap.size,0,none⟩ (.int .i64 e)).setCell ⟨w.heap.size,1,none⟩ (.slice A2 4 C2)) w.heap.size A2 C2:=by
   have F:w0.drew.heap.size=w0.heap.size:=rfl;exact((B.grown s1 (by omega)).lower (by omega))
  go_wp2_with fail;exact bodyPost_ret (hLg rfl _ _ w.heap.size _ rfl (by rfl) s0) rfl ⟨A2,C2,rfl,C,x⟩
theorem hCq {fn:Func} {p q:Tmp} (h:fn.results=#[.tmp p,.cell q 43]) (tmps:Array Value) (w:World) (g:Nat) (cs:Array Value) (e:cs.size=2)
  (d:tmps.getD q undef=.pointer (some ⟨g,0,none⟩)) (b:w.heap[g]?=some (.cells cs 43 (0,0))) :
  (results fn tmps).run Tryz.prog w=.ok (.tuple #[tmps.getD p undef,.agg cs]) w:=by
 have a:tmps[q]?.getD undef=.pointer (some ⟨g,0,none⟩):=by simpa using d
 have c:=run_loadVar_row (P:=Tryz.prog) w g 43 43 cs (0,0) _ b Tryz.underlying43 rfl (by rw[e];kernel_rfl);simp[results,h,a,asAddr,c]
theorem hEf {fn:Func} {p q:Tmp} (h:fn.results=#[.cell p 43,.tmp q]) (tmps:Array Value) (w:World) (g:Nat) (cs:Array Value) (e:cs.size=2)
  (d:tmps.getD p undef=.pointer (some ⟨g,0,none⟩)) (b:w.heap[g]?=some (.cells cs 43 (0,0))) :
  (results fn tmps).run Tryz.prog w=.ok (.tuple #[.agg cs,tmps.getD q undef]) w:=by
 have a:tmps[p]?.getD undef=.pointer (some ⟨g,0,none⟩):=by simpa using d
 have c:=run_loadVar_row (P:=Tryz.prog) w g 43 43 cs (0,0) _ b Tryz.underlying43 rfl (by rw[e];kernel_rfl);simp[results,h,a,asAddr,c]
end Go.Proofs.YtlibpcllceepkaaGreat
