/- Joined texts of the claim. No condition. -/
import Derived.Test.YtlibpcllceepkaaGreatB06
import Derived.Carry
import Derived.Deep.MidRow
import Derived.Maps.Keyed
namespace Go.Proofs.YtlibpcllceepkaaGreat
open Go.RowKit
set_option maxRecDepth 100000
set_option linter.unusedVariables false
set_option linter.unusedSimpArgs false
set_option maxHeartbeats 16000000
theorem hAp (w:World) (x y:Obj):((w.alloc x).alloc y).heap[w.heap.size]?=some x∧((w.alloc x).alloc y).heap[w.heap.size+1]?=some y∧w.heap.size+1<((w.alloc x).alloc y).heap.size∧Below w.heap.size w ((w.alloc x).alloc y):=by
 have a:Below w.heap.size w (w.alloc x):=(Below.refl _ _).alloc (Nat.le_refl _) _;have k:=heap_alloc_new (w.alloc x) y;rw[show(w.alloc x).heap.size=w.heap.size+1 by simp] at k;exact⟨(heap_alloc_old (w.alloc x) y (show w.heap.size<_ by simp)).trans (heap_alloc_new w _),k,by simp,a.alloc (by simp) _⟩
theorem hOw (b:Nat) (i:Nat) (Hk:i≠0) (o:Tags) (ms:Nat→Nat) (rho:Nat→Rq) (L:SLog) (he:L.e≤60) (hv:L.v≤60) (j:Nat) (R:j<4) (f:Nat) (hf:f<4) (w:World) (h:LogAt w o i b ms rho L) (S:(rho (4*L.e+1+j)).Ok)
  (hn:f∉(L.sl.getD j SSl.new).pre) (Hr:SRep.looks L.v { L.sl.getD j SSl.new with pre:=(L.sl.getD j SSl.new).pre++[f] }=true) :
  Calls Tryz.prog 248 #[.pointer (some ⟨b,0,none⟩),.int .i64 f,.int .i64 ((4*L.e+1+j:Nat):Int),.agg (rho (4*L.e+1+j)).v,.agg #[.int .i64 f,.string (prepT L.e L.v (4*L.e+1+j) (rho (4*L.e+1+j)))]] w fun e w'=>e=.returned (.int .i64 0)∧∃ o',LogAt w' o' i b ms rho { L with sl:=L.sl.set j (({ L.sl.getD j SSl.new with pre:=(L.sl.getD j SSl.new).pre++[f] }:SSl).look L.v) }∧Chg i o o' w w':=by
 have hs:=h.slots j R;have k2:=hs.c1;have r:=h.lt;have hl:=h.len;have aa:=h.view;obtain⟨cf0,A,c,cf1,Hm⟩:=h.conf;have H:=zH h;have hJ:=zH Hm;have HM:=zH hs.m1;have s:asc (preL (rho (4*L.e+1+j)) L.e L.v (4*L.e+1+j) (L.sl.getD j SSl.new).pre) (f:Int)=none:=by
  unfold preL;rw[hDz (fun(f:Nat)=>voteV (rho (4*L.e+1+j)) f (prepT L.e L.v (4*L.e+1+j) (rho (4*L.e+1+j))))];rw[if_neg hn]
 have g:=fun(w:World) (h:MpI w (ms (2*j)) (preL (rho (4*L.e+1+j)) L.e L.v (4*L.e+1+j) (L.sl.getD j SSl.new).pre))=>hHh (P:=Tryz.prog) Tryz.underlying224 Tryz.underlying3 h (f:Int) (voteV (rho (4*L.e+1+j)) f (prepT L.e L.v (4*L.e+1+j) (rho (4*L.e+1+j)))) s;have Q:=fun(w3 w4:World) (h3:LogAt w3 o i b ms rho L) (x:MpI w4 (ms (2*j)) (preL (rho (4*L.e+1+j)) L.e L.v (4*L.e+1+j) (L.sl.getD j SSl.new).pre++[((f:Int),voteV (rho (4*L.e+1+j)) f (prepT L.e L.v (4*L.e+1+j) (rho (4*L.e+1+j))))])) (hg:w3.grownBy w4 (some (ms (2*j))))=>zH (h3.vote Hk j R 0 (by decide) { L.sl.getD j SSl.new with pre:=(L.sl.getD j SSl.new).pre++[f] } hg rfl rfl rfl (by rw[if_pos rfl];simp only[preL,List.map_append] at x ⊢;exact x) rfl);have V:=fun(w:World) h=>zH (hHx b i Hk o ms rho L hl ((4*L.e+1+j:Nat):Int) j R _ w h S Hr);have O:=fun w=>zH (hFk L.e L.v (4*L.e+1+j) (by omega) (by omega) (by omega) _ S w);have HA:=fun w h=>zH (hD2 b i o ms rho L he j R _ S w h);have HH:=fun w h=>zH (has4 (f:Int) (L.e:Int) A c w h);rw[decide_eq_true (show(0:Int)≤(f:Int)∧(f:Int)<4 by omega)] at HH;unfold voteV at g;generalize preL (rho (4*L.e+1+j)) L.e L.v (4*L.e+1+j) (L.sl.getD j SSl.new).pre=pl at s g Q HM;generalize prepT L.e L.v (4*L.e+1+j) (rho (4*L.e+1+j))=t at g Q O ⊢;have teq:(t.toList == t.toList)=true:=hBw _ _ _ (decide_eq_true rfl);obtain⟨n,Hq⟩:=zN (((4*L.e+1+j:Nat):Int));rw[←Hq] at HA V O ⊢;generalize rho (4*L.e+1+j)=q at g Q O HA ⊢;obtain⟨Hp,Ht,T,d⟩:=hAp w (.cells q.v 36) (.cells #[.int .i64 f,.string t] 114);have M:=zH d;have N:=zH Hp;have HS:=zH Ht;obtain⟨z0,z1,z2,z3,z4,z5⟩:=hAf N.o;have am:=fun(w:World) (a:Addr) (k:FloatKind) (n:Nat)=>run_store Tryz.prog w a (.float k n) .plain rfl;unfold Rq.v at *;clear h hs Hp Ht d S hn Hr Hq Hm;go_enter Tryz.func248,Tryz.ntmps248;go_wp2_with fail;generalize World.alloc _ _=w0 at M N HS T z0 z1 z2 z3 z4 z5 ⊢;refine(HA w0 (H.o.fix (Fix.same (P:=fun _=>True) M.o) trivial trivial)).o.mono ?_;rintro e w1 ⟨rfl,d⟩;have C:=zH (zB M.o d);have G:=(d.block _ (by omega)).trans N.o;have Hh:=(d.block _ T).trans HS.o;have W:=zH G;have Z:=zH Hh;have d0:=(C.o.cell (p:=⟨b,0,none⟩) r).trans cf0;have dv:=(C.o.cell (p:=⟨b,2,none⟩) r).trans aa;have Hu:w.heap.size+1<w1.heap.size:=Nat.lt_of_lt_of_le T d.size;have l:w.heap.size<w1.heap.size:=by omega
 have Hi:b<w1.heap.size:=by omega
 clear z0 z1 z2 z3 z4 z5 d M N HS T;obtain⟨z0,z1,z2,z3,z4,z5⟩:=hAf G;clear G Hh;go_wp2_with fail;have x0:=fun y:Bel w1.heap.size w1=>y.cell Hi d0;have x1:=fun y:Bel w1.heap.size w1=>y.cell Hi dv;have u0:=fun y:Bel w1.heap.size w1=>y.cell l z0;have u1:=fun y:Bel w1.heap.size w1=>y.cell l z1;have u2:=fun y:Bel w1.heap.size w1=>y.cell l z2;have u3:=fun y:Bel w1.heap.size w1=>y.cell l z3;have u4:=fun y:Bel w1.heap.size w1=>y.cell l z4;have u5:=fun y:Bel w1.heap.size w1=>y.cell l z5;have Y:=fun y:Bel w1.heap.size w1=>zH (O y.w).o;refine hAg w1.heap.size w1 (by kernel_rfl) (by kernel_rfl) (Below.refl _ _) ?_;repeat (go_big_quiet_step ((go_at_call 273;exact hAq (Nat.le_refl _) (Y _).o)))
 refine wpQuiet_nil ?_;rintro _ ⟨y,rfl⟩;have m:=zH (C.o.trans (y.h.mono C.o.size));have X:=zH ((y.h.block _ l).trans W.o);have Ha:=zH ((y.h.block _ Hu).trans Z.o);have J:=Nat.lt_of_lt_of_le Hu y.h.size;clear x0 x1 u0 u1 u2 u3 u4 u5 Y z0 z1 z2 z3 z4 z5 d0 dv W Z;generalize y.w=w2 at m X Ha J ⊢;have d2:=(m.o.cell (p:=⟨b,3+5*j+1,none⟩) r).trans k2;have Hc:=HM.o.fix (Fix.same (P:=fun _=>True) m.o) trivial;have Hl:=hEq (P:=Tryz.prog) true Tryz.underlying224 Tryz.underlying3 (hGr w2) Hc.1 (f:Int) s;simp only[if_true] at Hl;have d0:=(m.o.cell (p:=⟨b,0,none⟩) r).trans cf0;have d1:=(m.o.cell (p:=⟨b,1,none⟩) r).trans cf1;have ak:b<w2.heap.size:=by have:=y.h.size;omega
 have z:Below w2.heap.size w2 (w2.alloc (.cells #[.int .i64 0,.int .i64 0,.int .i64 0,.string ⟨#[]⟩,.float .f64 0,.int .i64 0,.int .i64 0,.string ⟨#[]⟩] 361)):=(Below.refl _ _).alloc (Nat.le_refl _) _;have D:=zH (zB m.o z);have E:=zH ((z.block _ (by omega)).trans X.o);have F:=zH ((z.block _ J).trans Ha.o);have K:=Nat.lt_of_lt_of_le J z.size;have B:w.heap.size<(w2.alloc (.cells #[.int .i64 0,.int .i64 0,.int .i64 0,.string ⟨#[]⟩,.float .f64 0,.int .i64 0,.int .i64 0,.string ⟨#[]⟩] 361)).heap.size:=by omega
 clear Hc z;go_wp2_with fail;clear Hl d2 d0 d1;generalize w2.alloc _=w3 at D E F K B ⊢;refine(HH w3 (hJ.o.fix (Fix.same (P:=fun _=>True) D.o) trivial).1).o.mono ?_;rintro e w4 ⟨rfl,d⟩;have U:=zH (zB D.o d);have Hg:=(d.block _ B).trans E.o;have I:=(d.block _ K).trans F.o;have s0:=zR w4 _ 0 _ _ _ I;have s1:=zR w4 _ 1 _ _ _ I;simp at s0 s1;obtain⟨z0,z1,z2,z3,z4,z5⟩:=hAf Hg;have d2:=(U.o.cell (p:=⟨b,3+5*j+1,none⟩) r).trans k2;have u:Below w.heap.size w w4.drew:=hAc U.o 1;have x:=HM.o.fix (Fix.same (P:=fun _=>True) u) trivial;obtain⟨w5,ab,Hf,Hj⟩:=g w4.drew x.1;have Hb:=Q _ _ (H.o.fix (Fix.same (P:=fun _=>True) u) trivial trivial) Hf Hj;have u:=zH u;clear d Hg I x Hf Hj D E F K B;go_wp2_with fail;go_region_law (fail)
 all_goals
  go_wp2_with fail;refine(V w5 Hb.o.1).o.mono ?_;rintro e w6 ⟨rfl,o',h5,c5⟩;have H5:=zH h5;have HJ:=zH (((Chg.below (i:=i) u.o fun _ _=>rfl).trans Hb.o.2).trans c5);clear h5 c5;go_wp2_with fail;go_ret;exact⟨rfl,o',H5.o,HJ.o⟩
theorem hHv (b:Nat) (i:Nat) (o:Tags) (ms:Nat→Nat) (rho:Nat→Rq) (L:SLog) (he:L.e≤60) (hv:L.v≤60) (j:Nat) (hj:j<4) (f:Nat) (hf:f<4) (w:World) (h:LogAt w o i b ms rho L) (hq:(rho (4*L.e+1+j)).Ok)
  (hn:f∈(L.sl.getD j SSl.new).pre) :
  Calls Tryz.prog 248 #[.pointer (some ⟨b,0,none⟩),.int .i64 f,.int .i64 ((4*L.e+1+j:Nat):Int),.agg (rho (4*L.e+1+j)).v,.agg #[.int .i64 f,.string (prepT L.e L.v (4*L.e+1+j) (rho (4*L.e+1+j)))]] w fun e w'=>e=.returned (.int .i64 7)∧Below w.heap.size w w':=by
 have hs:=h.slots j hj;have k2:=hs.c1;have s:=h.lt;have hl:=h.len;have Hr:=h.view;obtain⟨cf0,A,c,cf1,X⟩:=h.conf;have H:=zH h;have Hl:=zH X;have HM:=zH hs.m1;have g:asc (preL (rho (4*L.e+1+j)) L.e L.v (4*L.e+1+j) (L.sl.getD j SSl.new).pre) (f:Int)=some (voteV (rho (4*L.e+1+j)) f (prepT L.e L.v (4*L.e+1+j) (rho (4*L.e+1+j)))):=by
  unfold preL;rw[hDz (fun(f:Nat)=>voteV (rho (4*L.e+1+j)) f (prepT L.e L.v (4*L.e+1+j) (rho (4*L.e+1+j))))];rw[if_pos hn]
 have M:=fun w=>zH (hFk L.e L.v (4*L.e+1+j) (by omega) (by omega) (by omega) _ hq w);have HA:=fun w h=>zH (hD2 b i o ms rho L he j hj _ hq w h);have HH:=fun w h=>zH (has4 (f:Int) (L.e:Int) A c w h);rw[decide_eq_true (show(0:Int)≤(f:Int)∧(f:Int)<4 by omega)] at HH;generalize preL (rho (4*L.e+1+j)) L.e L.v (4*L.e+1+j) (L.sl.getD j SSl.new).pre=pl at g HM;generalize prepT L.e L.v (4*L.e+1+j) (rho (4*L.e+1+j))=t at g M ⊢;have teq:(t.toList == t.toList)=true:=hBw _ _ _ (decide_eq_true rfl);obtain⟨n,Z⟩:=zN (((4*L.e+1+j:Nat):Int));rw[←Z] at HA M ⊢;generalize rho (4*L.e+1+j)=q at g M HA ⊢;obtain⟨Y,Ha,N,d⟩:=hAp w (.cells q.v 36) (.cells #[.int .i64 f,.string t] 114);have J:=zH d;have K:=zH Y;have HS:=zH Ha;obtain⟨z0,z1,z2,z3,z4,z5⟩:=hAf K.o;have Hw:=fun(w:World) (a:Addr) (k:FloatKind) (n:Nat)=>run_store Tryz.prog w a (.float k n) .plain rfl;unfold Rq.v at *;clear h hs Y Ha d hq hn Z X;go_enter Tryz.func248,Tryz.ntmps248;go_wp2_with fail;generalize World.alloc _ _=w0 at J K HS N z0 z1 z2 z3 z4 z5 ⊢;refine(HA w0 (H.o.fix (Fix.same (P:=fun _=>True) J.o) trivial trivial)).o.mono ?_;rintro e w1 ⟨rfl,d⟩;have x:=zH (zB J.o d);have D:=(d.block _ (by omega)).trans K.o;have V:=(d.block _ N).trans HS.o;have O:=zH D;have S:=zH V;have d0:=(x.o.cell (p:=⟨b,0,none⟩) s).trans cf0;have dv:=(x.o.cell (p:=⟨b,2,none⟩) s).trans Hr;have Hb:w.heap.size+1<w1.heap.size:=Nat.lt_of_lt_of_le N d.size;have l:w.heap.size<w1.heap.size:=by omega
 have W:b<w1.heap.size:=by omega
 clear z0 z1 z2 z3 z4 z5 d J K HS N;obtain⟨z0,z1,z2,z3,z4,z5⟩:=hAf D;clear D V;go_wp2_with fail;have x0:=fun y:Bel w1.heap.size w1=>y.cell W d0;have x1:=fun y:Bel w1.heap.size w1=>y.cell W dv;have u0:=fun y:Bel w1.heap.size w1=>y.cell l z0;have u1:=fun y:Bel w1.heap.size w1=>y.cell l z1;have u2:=fun y:Bel w1.heap.size w1=>y.cell l z2;have u3:=fun y:Bel w1.heap.size w1=>y.cell l z3;have u4:=fun y:Bel w1.heap.size w1=>y.cell l z4;have u5:=fun y:Bel w1.heap.size w1=>y.cell l z5;have R:=fun y:Bel w1.heap.size w1=>zH (M y.w).o;refine hAg w1.heap.size w1 (by kernel_rfl) (by kernel_rfl) (Below.refl _ _) ?_;repeat (go_big_quiet_step ((go_at_call 273;exact hAq (Nat.le_refl _) (R _).o)))
 refine wpQuiet_nil ?_;rintro _ ⟨y,rfl⟩;have m:=zH (x.o.trans (y.h.mono x.o.size));have Q:=zH ((y.h.block _ l).trans O.o);have T:=zH ((y.h.block _ Hb).trans S.o);have G:=Nat.lt_of_lt_of_le Hb y.h.size;clear x0 x1 u0 u1 u2 u3 u4 u5 R z0 z1 z2 z3 z4 z5 d0 dv O S;generalize y.w=w2 at m Q T G ⊢;have d2:=(m.o.cell (p:=⟨b,3+5*j+1,none⟩) s).trans k2;have U:=HM.o.fix (Fix.same (P:=fun _=>True) m.o) trivial;have F:=hEh (P:=Tryz.prog) true Tryz.underlying224 Tryz.underlying3 U.1 (f:Int) g;simp only[if_true] at F;unfold voteV at F;have d0:=(m.o.cell (p:=⟨b,0,none⟩) s).trans cf0;have d1:=(m.o.cell (p:=⟨b,1,none⟩) s).trans cf1;have Hu:b<w2.heap.size:=by have:=y.h.size;omega
 have r:Below w2.heap.size w2 (w2.alloc (.cells #[.int .i64 1,.int .i64 q.st,.int .i64 q.kind,.string q.key,.float .f64 q.real,.int .i64 0,.int .i64 f,.string t] 361)):=(Below.refl _ _).alloc (Nat.le_refl _) _;have z:=zH (zB m.o r);have B:=zH ((r.block _ (by omega)).trans Q.o);have C:=zH ((r.block _ G).trans T.o);have I:=Nat.lt_of_lt_of_le G r.size;have u:w.heap.size<(w2.alloc (.cells #[.int .i64 1,.int .i64 q.st,.int .i64 q.kind,.string q.key,.float .f64 q.real,.int .i64 0,.int .i64 f,.string t] 361)).heap.size:=by omega
 clear U r;go_wp2_with fail;clear F d2 d0 d1;generalize w2.alloc _=w3 at z B C I u ⊢;refine(HH w3 (Hl.o.fix (Fix.same (P:=fun _=>True) z.o) trivial).1).o.mono ?_;rintro e w4 ⟨rfl,d⟩;have Hi:=zH (zB z.o d);have Hm:=(d.block _ u).trans B.o;have E:=(d.block _ I).trans C.o;have s0:=zR w4 _ 0 _ _ _ E;have s1:=zR w4 _ 1 _ _ _ E;simp at s0 s1;clear d Hm E z B C I u;go_wp2_with fail;go_ret;exact⟨rfl,Hi.o⟩
def logC (e:Nat) (A:Option Addr) (c:Nat) (v:Nat) (M:Nat→Value):Array Value:=
 #[.int .i64 e,.slice A 4 c,.int .i64 v,.pointer none,M 0,M 1,.pointer none,.pointer none,.pointer none,M 2,M 3,.pointer none,.pointer none,.pointer none,M 4,M 5,.pointer none,.pointer none,.pointer none,M 6,M 7,.pointer none,.pointer none]
def upM (M:Nat→Value) (j n:Nat):Nat→Value:=fun t=>if t=2*j then .map (some n) else if t=2*j+1 then .map (some (n+1)) else M t
theorem hVq (e:Nat) (A:Option Addr) (c:Nat) (v:Nat) (M:Nat→Value) (n j:Nat) (a:j<4) :
  (((logC e A c v M).setIfInBounds (3+5*j) (.pointer none)).setIfInBounds (3+5*j+1) (.map (some n))).setIfInBounds (3+5*j+2) (.map (some (n+1)))=logC e A c v (upM M j n):=by
 have:j=0∨j=1∨j=2∨j=3:=by omega
 rcases this with rfl | rfl | rfl | rfl<;>rfl
theorem hRb (b:Nat) (e:Nat) (A:Option Addr) (c:Nat) (v:Nat) (M:Nat→Value) (j:Nat) (n:j<4) (w:World) (h:w.heap[b]?=some (.cells (logC e A c v M) 230 (0,0))) (l:∀ t,∃ p,M t=.map p) :
  Calls Tryz.prog 128 #[.pointer (some ⟨b,3+5*j,none⟩)] w fun r w'=>r=.returned (.tuple #[])∧w'.heap[b]?=some (.cells (logC e A c v (upM M j w.heap.size)) 230 (0,0))∧w'.heap.size=w.heap.size+2∧w'.heap[w.heap.size]?=some (.map #[] 0)∧w'.heap[w.heap.size+1]?=some (.map #[] 0)∧w.grownBy w' (some b):=by
 have s:=(zL h);have c0:=zR w b (3+5*j) _ _ _ h;have c1:=zR w b (3+5*j+1) _ _ _ h;have c2:=zR w b (3+5*j+2) _ _ _ h;obtain⟨p1,d⟩:=l (2*j);obtain⟨p2,g⟩:=l (2*j+1);have e0:(logC e A c v M)[3+5*j]?=some (.pointer none):=by
  have:j=0∨j=1∨j=2∨j=3:=by omega
  rcases this with rfl | rfl | rfl | rfl<;>rfl
 have e1:(logC e A c v M)[3+5*j+1]?=some (.map p1):=by
  rw[←d];have:j=0∨j=1∨j=2∨j=3:=by omega
  rcases this with rfl | rfl | rfl | rfl<;>rfl
 have e2:(logC e A c v M)[3+5*j+2]?=some (.map p2):=by
  rw[←g];have:j=0∨j=1∨j=2∨j=3:=by omega
  rcases this with rfl | rfl | rfl | rfl<;>rfl
 rw[e0] at c0;rw[e1] at c1;rw[e2] at c2;have f:=fun k=>frozen_of_row w b k _ _ h;have q:=zH (hVq e A c v M w.heap.size j n);have H:=zH h;clear h e0 e1 e2 d g l n;have u:=@run_makeMap Tryz.prog;go_enter Tryz.func128,Tryz.ntmps128;go_wp2_with fail;have i:=heap_setCell_same _ b (3+5*j+2) _ _ (.map (some (w.heap.size+1))) (heap_setCell_same _ b (3+5*j+1) _ _ (.map (some w.heap.size)) (heap_setCell_same w b (3+5*j) _ _ (.pointer none) H.o));rw[q.o] at i;have m:w.grownBy (((w.setCell ⟨b,3+5*j,none⟩ (.pointer none)).setCell ⟨b,3+5*j+1,none⟩ (.map (some w.heap.size))).setCell ⟨b,3+5*j+2,none⟩ (.map (some (w.heap.size+1)))) (some b):=hAb (hAb (hAb (hAa (Below.refl _ _) _) (p:=⟨b,3+5*j,none⟩) (.inl rfl) _) (p:=⟨b,3+5*j+1,none⟩) (.inl rfl) _) (p:=⟨b,3+5*j+2,none⟩) (.inl rfl) _;have a:(((w.setCell ⟨b,3+5*j,none⟩ (.pointer none)).setCell ⟨b,3+5*j+1,none⟩ (.map (some w.heap.size))).setCell ⟨b,3+5*j+2,none⟩ (.map (some (w.heap.size+1)))).heap.size=w.heap.size:=by simp[World.setCell]
 generalize ((w.setCell _ _).setCell _ _).setCell _ _=w3 at i m a ⊢;obtain⟨a1,a2,a3,a4⟩:=hAp w3 (.map #[] 0) (.map #[] 0);rw[a] at a1 a2;go_end0;exact⟨rfl,(a4.block b (by omega)).trans i,by simp[a],a1,a2,m.trans (hAa a4 _)⟩
theorem hTg {e:Nat} {A:Option Addr} {c v:Nat} {M M':Nat→Value} (h:∀ t,t<8→M t=M' t):logC e A c v M=logC e A c v M':=by
 unfold logC;rw[h 0 (by decide),h 1 (by decide),h 2 (by decide),h 3 (by decide),h 4 (by decide),h 5 (by decide),h 6 (by decide),h 7 (by decide)]
def mkM (M:Nat→Value) (n k:Nat):Nat→Value:=fun t=>if t<2*k then .map (some (n+t)) else M t
theorem hZd (M:Nat→Value) (n k:Nat):upM (mkM M n k) k (n+2*k)=mkM M n (k+1):=by
 funext t
 unfold upM mkM;by_cases h1:t=2*k
 ·subst h1;simp
 ·by_cases h2:t=2*k+1
  ·subst h2;rw[if_neg h1,if_pos rfl,if_pos (by omega)];rfl
  ·rw[if_neg h1,if_neg h2];by_cases h3:t<2*k
   ·rw[if_pos h3,if_pos (by omega)]
   ·rw[if_neg h3,if_neg (by omega)]
theorem hJ7 (b:Nat) (e:Nat) (A:Option Addr) (c:Nat) (v:Nat) (M:Nat→Value) (w:World) (h:w.heap[b]?=some (.cells (logC e A c v M) 230 (0,0))) (f:∀ t,∃ p,M t=.map p) :
  Calls Tryz.prog 103 #[.pointer (some ⟨b,0,none⟩)] w fun r w'=>r=.returned (.tuple #[])∧w'.heap[b]?=some (.cells (logC e A c v (fun t=>.map (some (w.heap.size+t)))) 230 (0,0))∧(∀ t,t<8→w'.heap[w.heap.size+t]?=some (.map #[] 0))∧w.grownBy w' (some b):=by
 have u:=(zL h);have n:=fun(j:Nat) (s:j<4) (w:World) M h f=>zH (hRb b e A c v M j s w h f);have H:=zH h;have q:=zH f;clear h f;go_enter Tryz.func103,Tryz.ntmps103;go_wp2_with fail;go_loopw [3] (fun j wr=>∃ k:Nat,k≤4∧j=.int .i64 k∧zI (wr.heap[b]?=some (.cells (logC e A c v (mkM M w.heap.size k)) 230 (0,0)))∧wr.heap.size=w.heap.size+2*k∧zI (∀ t,t<2*k→wr.heap[w.heap.size+t]?=some (.map #[] 0))∧zI (w.grownBy wr (some b))) (fun j _=>4 - (intOf j).toNat)
 case atStart=>exact⟨0,by omega,rfl,zH (by rw[H.o,hTg (M':=mkM M w.heap.size 0) (fun t _=>by unfold mkM;rw[if_neg (by omega)])]),rfl,zH (fun t d=>by omega),zH (hAa (Below.refl _ _) _)⟩
 case round=>
  obtain⟨k,y,rfl,hc,g,a,l⟩:=hrel;by_cases hk4:k<4
  ·have n0:(0:Int)≤(k:Int):=by omega
   have n1:(k:Int)<4:=by omega
   have i:=n k hk4 wr _ hc.o (fun t=>by unfold mkM;split;exact⟨_,rfl⟩;exact q.o t);rw[g,hZd,Nat.mul_comm 5 k] at i;go_wp2_with fail;refine i.o.mono ?_;rintro r w1 ⟨rfl,a1,a2,a3,a4,a5⟩;have A1:=zH a1;have m:w1.heap.size=w.heap.size+2*(k+1):=by omega
   have A3:zI (∀ t,t<2*(k+1)→w1.heap[w.heap.size+t]?=some (.map #[] 0)):=zH (fun t d=>by
    by_cases h1:t<2*k
    ·exact(a5.block _ (by omega) (fun e=>by have:=Option.some.inj e;omega)).trans (a.o t h1)
    ·have:t=2*k∨t=2*k+1:=by omega
     rcases this with rfl | rfl
     ·exact a3
     ·exact a4)
   have A4:=zH (l.o.trans a5);clear a1 a2 a3 a4 a5 i hc a l g;go_wp2_with fail;exact⟨⟨k+1,by omega,by go_num,A1,m,A3,A4⟩,by simp[intOf];omega⟩
  ·obtain rfl:k=4:=by omega
   clear hk4;go_wp2_with fail;go_end0;refine⟨rfl,?_,fun t d=>a.o t d,l.o⟩;rw[hc.o];exact congrArg some (congrArg (fun x=>Obj.cells x _ (0,0)) (hTg (fun t d=>by unfold mkM;rw[if_pos d])))
theorem hJ2 (j:Nat) (a:j<4):SRep.fresh.getD j SSl.new=SSl.new:=by
 have:j=0∨j=1∨j=2∨j=3:=by omega
 rcases this with rfl | rfl | rfl | rfl<;>rfl
theorem hMh (e:Nat) (A:Option Addr) (c v:Nat) (M:Nat→Value) (j:Nat) (a:j<4) :
  (logC e A c v M)[3+5*j]?=some (.pointer none)∧(logC e A c v M)[3+5*j+1]?=some (M (2*j))∧(logC e A c v M)[3+5*j+2]?=some (M (2*j+1))∧(logC e A c v M)[3+5*j+3]?=some (.pointer none)∧(logC e A c v M)[3+5*j+4]?=some (.pointer none):=by
 have:j=0∨j=1∨j=2∨j=3:=by omega
 rcases this with rfl | rfl | rfl | rfl<;>exact⟨rfl,rfl,rfl,rfl,rfl⟩
theorem hMn {w:World} {b:Nat} (h:w.heap[b]?=some (.map #[] 0)):MpI w b []:=⟨#[],0,h,rfl⟩
theorem LogAt.of_cells {w:World} {o:Tags} {i b n:Nat} {rho:Nat→Rq} {e v:Nat} {A:Option Addr} {c:Nat} (h:w.heap[b]?=some (.cells (logC e A c v (fun t=>.map (some (n+t)))) 230 (0,0))) (l:o b=i) (m:MemD w o A c)
  (a:∀ t,t<8→w.heap[n+t]?=some (.map #[] 0)) (g:∀ t,t<8→o (n+t)=i):LogAt w o i b (fun t=>n+t) rho ⟨e,v,SRep.fresh⟩:=by
 refine⟨rfl,l,⟨_,h,rfl⟩,⟨(zR w b 0 _ _ _ h).trans rfl,A,c,(zR w b 1 _ _ _ h).trans rfl,m⟩,(zR w b 2 _ _ _ h).trans rfl,fun j d=>?_,fun j k _ _ f=>by have:n+j=n+k:=f;omega⟩;simp only[hJ2 j d];obtain⟨g0,g1,g2,g3,g4⟩:=hMh e A c v (fun t=>.map (some (n+t))) j d;exact⟨⟨_,(zR w b _ _ _ _ h).trans g0,rfl⟩,(zR w b _ _ _ _ h).trans g1,⟨hMn (a _ (by omega)),g _ (by omega)⟩,(zR w b _ _ _ _ h).trans g2,⟨hMn (a _ (by omega)),g _ (by omega)⟩,⟨_,(zR w b _ _ _ _ h).trans g3,rfl⟩,⟨_,(zR w b _ _ _ _ h).trans g4,rfl⟩⟩
theorem LogAt.cells_of {w:World} {o:Tags} {i b:Nat} {ms:Nat→Nat} {rho:Nat→Rq} {L:SLog} (h:LogAt w o i b ms rho L) (m:L.sl=SRep.fresh) :
  ∃ A c,MemD w o A c∧w.heap[b]?=some (.cells (logC L.e A c L.v (fun t=>.map (some (ms t)))) 230 (0,0)):=by
 obtain⟨q0,A,c,q1,q2⟩:=h.conf;obtain⟨cs,g,q⟩:=h.blk;refine⟨A,c,q2,?_⟩;rw[g];have d:∀ k v,w.cell? ⟨b,k,none⟩=some v→cs[k]?=some v:=fun k v l=>by rw[←zR w b k _ _ _ g];exact l
 have hc:cs=logC L.e A c L.v (fun t=>.map (some (ms t))):=by
  apply Array.ext_getElem?;intro k;by_cases l:k<23
  ·by_cases hk3:k<3
   ·have:k=0∨k=1∨k=2:=by omega
    rcases this with rfl | rfl | rfl
    ·exact d _ _ q0
    ·exact d _ _ q1
    ·exact d _ _ h.view
   ·obtain⟨j,r,f,n,rfl⟩:∃ j r,j<4∧r<5∧k=3+5*j+r:=⟨(k - 3) / 5,(k - 3) % 5,by omega,by omega,by omega⟩;have a:=h.slots j f;rw[m,hJ2 j f] at a;obtain⟨g0,g1,g2,g3,g4⟩:=hMh L.e A c L.v (fun t=>.map (some (ms t))) j f;have:r=0∨r=1∨r=2∨r=3∨r=4:=by omega
    rcases this with rfl | rfl | rfl | rfl | rfl
    ·obtain⟨p,k0,k1⟩:=a.c0;obtain rfl:p=.pointer none:=k1;exact(d _ _ k0).trans g0.symm
    ·exact(d _ _ a.c1).trans g1.symm
    ·exact(d _ _ a.c2).trans g2.symm
    ·obtain⟨p,k0,k1⟩:=a.c3;obtain rfl:p=.pointer none:=k1;exact(d _ _ k0).trans g3.symm
    ·obtain⟨p,k0,k1⟩:=a.c4;obtain rfl:p=.pointer none:=k1;exact(d _ _ k0).trans g4.symm
  ·rw[Array.getElem?_eq_none (by omega),Array.getElem?_eq_none (by show 23≤k;omega)]
 rw[hc]
theorem hTj (b:Nat) (i:Nat) (s:i≠0) (o:Tags) (ms:Nat→Nat) (rho:Nat→Rq) (L:SLog) (k:L.sl=SRep.fresh) (v:Nat) (H:L.v<v) (l:v≤15) (w:World) (h:LogAt w o i b ms rho L) :
  Calls Tryz.prog 230 #[.pointer (some ⟨b,0,none⟩),.int .i64 v] w fun e w'=>e=.returned (.int .i64 0)∧∃ o' ms',LogAt w' o' i b ms' rho { L with v:=v }∧Chg i o o' w w':=by
 obtain⟨A,c,u,hc⟩:=h.cells_of k;have n:=h.lt;have c2:=h.view;have f:=h.tag;have n0:¬ (v:Int)≤(L.v:Int):=by omega
 have n1:¬ (v:Int) > 15:=by omega
 have f2:=frozen_of_row w b 2 _ _ hc;have j:=heap_setCell_same w b 2 _ _ (.int .i64 v) hc;rw[show(logC L.e A c L.v (fun t=>.map (some (ms t)))).setIfInBounds 2 (.int .i64 v)=logC L.e A c v (fun t=>.map (some (ms t))) from rfl] at j;have q:w.grownBy (w.setCell ⟨b,2,none⟩ (.int .i64 v)) (some b):=hAb (hAa (Below.refl _ _) _) (p:=⟨b,2,none⟩) (.inl rfl) _;have D:=zH (hJ7 b L.e A c v _ _ j (fun t=>⟨_,rfl⟩));have C:=zH q;have F:=zH u;have E:=zH (show({ L with v:=v }:SLog)=⟨L.e,v,SRep.fresh⟩ by rw[←k]);clear h hc j q u k H l;go_enter Tryz.func230,Tryz.ntmps230;go_wp2_with fail;refine D.o.mono ?_;rintro r w1 ⟨rfl,a1,a2,a3⟩;have y:(w.setCell ⟨b,2,none⟩ (.int .i64 v)).heap.size=w.heap.size:=by simp[World.setCell]
 rw[y] at a1 a2;have a:=C.o.trans a3;have d:Chg i o (o.ext w.heap.size i) w w1:=⟨a.os,a.tape,a.output,a.size,fun x m=>Tags.ext_old _ _ _ _ m,fun x m G=>a.block x m (fun e=>G (by rw[Option.some.inj e];exact f))⟩;have g:MemD w1 (o.ext w.heap.size i) A c:=F.o.fix (d.fix (P:=fun t=>t≠i) (by simp)) (Ne.symm s);have B:=zH (LogAt.of_cells (rho:=rho) a1 (by rw[Tags.ext_old _ _ _ _ n];exact f) g a2 (fun t _=>Tags.ext_new _ _ _ _ (by omega)));have z:=zH d;clear a1 a2 a3 a d g;go_wp2_with fail;go_ret;refine⟨rfl,o.ext w.heap.size i,fun t=>w.heap.size+t,?_,z.o⟩;rw[E.o];exact B.o
theorem hXq (e:Nat) (N:e≤60) (i:Nat) (o:Tags) (rho:Nat→Rq) (A:Option Addr) (c:Nat) (w:World) (O:Mem w A c) :
  Calls Tryz.prog 72 #[.agg #[.int .i64 e,.slice A 4 c]] w fun r w'=>∃ b o' ms,r=.returned (.tuple #[.pointer (some ⟨b,0,none⟩),.int .i64 0])∧LogAt w' o' i b ms rho ⟨e,0,SRep.fresh⟩∧(∀ x,x<w.heap.size→o' x=o x)∧Below w.heap.size w w':=by
 have m:Below w.heap.size w (w.alloc (.cells #[.int .i64 e,.slice A 4 c] 31)):=(Below.refl _ _).alloc (Nat.le_refl _) _;have D:=zH m;have k:=zH (heap_alloc_new w (.cells #[.int .i64 e,.slice A 4 c] 31));have u:w.heap.size<(w.alloc (.cells #[.int .i64 e,.slice A 4 c] 31)).heap.size:=by simp
 have s:=zH (O.keep m);have S:=fun w h=>zH (right4 e N A c w h);have I:=fun w h=>zH (clone4 A c w h);clear m O N;go_enter Tryz.func72,Tryz.ntmps72;go_wp2_with fail;generalize w.alloc _=w0 at D k s u ⊢;have l0:=zR w0 w.heap.size 0 _ _ _ k.o;have l1:=zR w0 w.heap.size 1 _ _ _ k.o;simp at l0 l1;go_wp2_with fail;refine(S w0 s.o).o.mono ?_;rintro r w1 ⟨rfl,f⟩;have v:=zH (zB D.o f);have l:=(f.block _ u).trans k.o;have K:=zH (s.o.keep f);have Q:w.heap.size<w1.heap.size:=Nat.lt_of_lt_of_le u f.size;clear l0 l1 D k s u f;have l0:=zR w1 w.heap.size 0 _ _ _ l;have l1:=zR w1 w.heap.size 1 _ _ _ l;simp at l0 l1;clear l;have z:=I w1.drew (K.o.keep ⟨rfl,rfl,rfl,Nat.le_refl _,fun _ _=>rfl⟩);go_wp2_with fail;go_region_law (first
  |(go_simp;go_at_call 43;refine z.o.mono ?_;rintro r w2 ⟨A2,C2,rfl,C,d⟩;have g:Below w1.heap.size w1 w2:=⟨d.os,d.tape,d.output,d.size,d.block⟩;have e0:=(g.cell (p:=⟨w.heap.size,0,none⟩) Q).trans l0))
 all_goals
  have B:=zB v.o g;have y:=zH B;have L:=zH C;have q:(w2.alloc (.cells (logC e A2 C2 0 (fun _=>.map none)) 230)).heap[w2.heap.size]?=some (.cells (logC e A2 C2 0 (fun _=>.map none)) 230 (0,0)):=heap_alloc_new w2 _;have J:=zH (hJ7 w2.heap.size e A2 C2 0 (fun _=>.map none) _ q (fun t=>⟨_,rfl⟩));have n:Below w2.heap.size w2 (w2.alloc (.cells (logC e A2 C2 0 (fun _=>.map none)) 230)):=(Below.refl _ _).alloc (Nat.le_refl _) _;have a:=zH n;have E:(w2.alloc (.cells (logC e A2 C2 0 (fun _=>.map none)) 230)).heap.size=w2.heap.size+1:=by simp
  rw[E] at J;clear q n C d g e0 B z l0 l1;go_wp2_with fail;refine J.o.mono ?_;rintro r w3 ⟨rfl,a1,a2,a3⟩;have F:w.heap.size≤w2.heap.size:=y.o.size;have j:Below w2.heap.size w2 w3:=⟨a3.os.trans a.o.os,a3.tape.trans a.o.tape,a3.output.trans a.o.output,Nat.le_trans a.o.size a3.size,fun x G=>(a3.block x (by omega) (fun e=>by have:=Option.some.inj e;omega)).trans (a.o.block x G)⟩;have H:=zH (y.o.trans (j.mono F));have M:MemD w3 ((o.ext w.heap.size 0).ext w2.heap.size i) A2 C2:=by
   have U:MemD w2 (o.ext w.heap.size 0) A2 C2:=L.o.data _ (fun b f=>Tags.ext_new _ _ _ _ (by have:w1.drew.heap.size=w1.heap.size:=rfl;have:=v.o.size;omega));exact U.fix (Fix.below (P:=fun _=>True) j (fun b f=>Tags.ext_old _ _ _ _ f)) trivial
  have R:=zH (LogAt.of_cells (rho:=rho) a1 (Tags.ext_new (o.ext w.heap.size 0) w2.heap.size i _ (Nat.le_refl _)) M a2 (fun t _=>Tags.ext_new _ _ _ _ (by omega)));have T:zI (∀ x,x<w.heap.size→((o.ext w.heap.size 0).ext w2.heap.size i) x=o x):=zH (fun x G=>(Tags.ext_old _ _ _ _ (by omega)).trans (Tags.ext_old _ _ _ _ G));clear a1 a2 a3 j M;go_wp2_with fail;go_ret2;exact⟨_,_,_,rfl,R.o,T.o,H.o⟩
def logL (M:Nat→Value):List Value:=[.pointer none,M 0,M 1,.pointer none,.pointer none,.pointer none,M 2,M 3,.pointer none,.pointer none,.pointer none,M 4,M 5,.pointer none,.pointer none,.pointer none,M 6,M 7,.pointer none,.pointer none]
theorem hTh (e:Nat) (A:Option Addr) (c v:Nat) (M:Nat→Value):(logC e A c v M).toList=[.int .i64 e,.slice A 4 c,.int .i64 v]++logL M:=rfl
theorem hTi (b:Nat) (i:Nat) (o:Tags) (ms:Nat→Nat) (rho:Nat→Rq) (L:SLog) (g:L.sl=SRep.fresh) (w:World) (h:LogAt w o i b ms rho L) :
  Calls Tryz.prog 235 #[.pointer (some ⟨b,0,none⟩)] w fun e w'=>e=.returned (.slice none 0 0)∧Below w.heap.size w w':=by
 obtain⟨A,c,n,hc⟩:=h.cells_of g;have l:w.rangeAt b 3 (logL (fun t=>.map (some (ms t)))):=fun j v p=>by
  rw[zR w b (3+j) _ _ _ hc,←Array.getElem?_toList,hTh,List.getElem?_append_right (by simp)];simpa using p
 have m:=zH l;clear hc n h g l;go_enter Tryz.func235,Tryz.ntmps235;go_wp2_with (refine wpList_load_mid (by rfl) 228 (.tmp 11) (by rfl) b 3 (by rfl) _ _ m.o Tryz.underlying228 rfl (by kernel_rfl) ?_);simp only[logL];go_loopw [3,13] (fun v j wr=>∃ k:Nat,k≤4∧v=.slice none 0 0∧j=.int .i64 k∧zI (Below w.heap.size w wr)) (fun _ j _=>4 - (intOf j).toNat)
 case atStart=>exact⟨0,by omega,rfl,rfl,zH (Below.refl _ _)⟩
 case round=>
  obtain⟨k,q,rfl,rfl,d⟩:=hrel;by_cases hk4:k<4
  ·obtain⟨M,f⟩:=zN (ms);rw[←f];have a:=fun o=>zH (d.o.alloc d.o.size o);have:k=0∨k=1∨k=2∨k=3:=by omega
   clear f;have i0:∀ w,(Instr.index 228 (.agg #[.pointer none,.map (some (M 0)),.map (some (M 1)),.pointer none,.pointer none,.pointer none,.map (some (M 2)),.map (some (M 3)),.pointer none,.pointer none,.pointer none,.map (some (M 4)),.map (some (M 5)),.pointer none,.pointer none,.pointer none,.map (some (M 6)),.map (some (M 7)),.pointer none,.pointer none]) (.int .i64 0)).run Tryz.prog w=.ok (.agg #[.pointer none,.map (some (M 0)),.map (some (M 1)),.pointer none,.pointer none]) w:=fun _=>by kernel_rfl
   have i1:∀ w,(Instr.index 228 (.agg #[.pointer none,.map (some (M 0)),.map (some (M 1)),.pointer none,.pointer none,.pointer none,.map (some (M 2)),.map (some (M 3)),.pointer none,.pointer none,.pointer none,.map (some (M 4)),.map (some (M 5)),.pointer none,.pointer none,.pointer none,.map (some (M 6)),.map (some (M 7)),.pointer none,.pointer none]) (.int .i64 1)).run Tryz.prog w=.ok (.agg #[.pointer none,.map (some (M 2)),.map (some (M 3)),.pointer none,.pointer none]) w:=fun _=>by kernel_rfl
   have i2:∀ w,(Instr.index 228 (.agg #[.pointer none,.map (some (M 0)),.map (some (M 1)),.pointer none,.pointer none,.pointer none,.map (some (M 2)),.map (some (M 3)),.pointer none,.pointer none,.pointer none,.map (some (M 4)),.map (some (M 5)),.pointer none,.pointer none,.pointer none,.map (some (M 6)),.map (some (M 7)),.pointer none,.pointer none]) (.int .i64 2)).run Tryz.prog w=.ok (.agg #[.pointer none,.map (some (M 4)),.map (some (M 5)),.pointer none,.pointer none]) w:=fun _=>by kernel_rfl
   have i3:∀ w,(Instr.index 228 (.agg #[.pointer none,.map (some (M 0)),.map (some (M 1)),.pointer none,.pointer none,.pointer none,.map (some (M 2)),.map (some (M 3)),.pointer none,.pointer none,.pointer none,.map (some (M 4)),.map (some (M 5)),.pointer none,.pointer none,.pointer none,.map (some (M 6)),.map (some (M 7)),.pointer none,.pointer none]) (.int .i64 3)).run Tryz.prog w=.ok (.agg #[.pointer none,.map (some (M 6)),.map (some (M 7)),.pointer none,.pointer none]) w:=fun _=>by kernel_rfl
   rcases this with rfl | rfl | rfl | rfl;all_goals
    go_wp2_with fail;first
     |exact⟨⟨1,by omega,rfl,by go_num,a _⟩,by simp[intOf]⟩
     |exact⟨⟨2,by omega,rfl,by go_num,a _⟩,by simp[intOf]⟩
     |exact⟨⟨3,by omega,rfl,by go_num,a _⟩,by simp[intOf]⟩
     |exact⟨⟨4,by omega,rfl,by go_num,a _⟩,by simp[intOf]⟩
  ·obtain rfl:k=4:=by omega
   clear hk4;go_wp2_with fail;go_ret;exact⟨rfl,d.o⟩
abbrev KV:=Value×Value
def MpK (k:TypeId) (w:World) (b:Nat) (l:List KV):Prop:=∃ es clock,w.heap[b]?=some (.map es clock)∧es.toList.map (fun e=>(e.key,e.val))=l∧(∀ p∈l,∃ kl,keyOf Tryz.prog k p.1=some kl)∧(l.map Prod.fst).Nodup∧MapKept.Stamped es clock
theorem MpK.lt {k:TypeId} {w:World} {b:Nat} {l:List KV} (h:MpK k w b l):b<w.heap.size:=by
 obtain⟨es,cl,a,_⟩:=h;exact(zL a)
theorem MpK.move {k:TypeId} {w w':World} {b:Nat} {l:List KV} (h:MpK k w b l) (d:w'.heap[b]?=w.heap[b]?):MpK k w' b l:=by
 obtain⟨es,cl,a,c⟩:=h;exact⟨es,cl,d.trans a,c⟩
theorem MpK.fix {P:Nat→Prop} {o o':Tags} {k:TypeId} {w w':World} {b:Nat} {l:List KV} (h:MpK k w b l) (f:Fix P o o' w w') (hi:P (o b)):MpK k w' b l:=h.move (f.block b h.lt hi).2
theorem MpK.empty {k:TypeId} {w:World} {b:Nat} (h:w.heap[b]?=some (.map #[] 0)):MpK k w b []:=⟨#[],0,h,rfl,by simp,by simp,MapKept.stamped_empty 0⟩
theorem MpK.find {k:TypeId} {w:World} (K:Maps.Keyed Tryz.prog k) {es:Array MapEntry} {l:List KV} (f:es.toList.map (fun e=>(e.key,e.val))=l) (g:∀ p∈l,∃ kl,keyOf Tryz.prog k p.1=some kl) {x:Value} {lx:Lit} (i:keyOf Tryz.prog k x=some lx) :
  ((Instr.findKey k x es.toList).run Tryz.prog w=.ok none w∧∀ p∈l,p.1≠x)∨∃ j l1 v l2,(Instr.findKey k x es.toList).run Tryz.prog w=.ok (some (j,v)) w∧l=l1++(x,v)::l2∧l1.length=j∧(es[j]?).map (·.key)=some x∧(∀ v',(es.modify j fun e=>{ e with key:=x,val:=v' }).toList.map (fun e=>(e.key,e.val))=l1++(x,v')::l2)∧(es.eraseIdxIfInBounds j).toList.map (fun e=>(e.key,e.val))=l1++l2:=by
 subst f;rcases K.find w i es.toList (fun e b=>g (e.key,e.val) (List.mem_map.2 ⟨e,b,rfl⟩)) with⟨f1,f2⟩ | ⟨j,e,f1,f2,f3⟩
 ·refine .inl ⟨f1,fun p h=>?_⟩;obtain⟨e,b,rfl⟩:=List.mem_map.1 h;exact f2 e b
 ·obtain⟨c,a⟩:=List.getElem?_eq_some_iff.1 f2;have d:es.toList=es.toList.take j++e::es.toList.drop (j+1):=by
   rw[←a,←List.drop_eq_getElem_cons c,List.take_append_drop]
  refine .inr ⟨j,(es.toList.take j).map (fun e=>(e.key,e.val)),e.val,(es.toList.drop (j+1)).map (fun e=>(e.key,e.val)),f1,?_,?_,?_,fun v'=>?_,?_⟩
  ·rw[←f3]
   conv=>lhs;rw[d]
   simp
  ·have:es.toList.length=es.size:=Array.length_toList;rw[List.length_map,List.length_take];omega
  ·rw[←Array.getElem?_toList,f2,Option.map_some,f3]
  ·rw[Array.toList_modify];have:es.toList.modify j (fun e=>{ e with key:=x,val:=v' })=es.toList.take j++{ e with key:=x,val:=v' }::es.toList.drop (j+1):=by
    rw[List.modify_eq_take_cons_drop c,a]
   rw[this];simp
  ·unfold Array.eraseIdxIfInBounds;rw[dif_pos (by simpa using c),Array.toList_eraseIdx,List.eraseIdx_eq_take_drop_succ];simp
theorem hAu {k:TypeId} {w:World} {t e:TypeId} {b:Nat} {l:List KV} (c:Bool) (K:Maps.Keyed Tryz.prog k) (m:Tryz.prog.underlying t=some (.map k e)) {z:Value} (n:(zeroValue e).run Tryz.prog w=.ok z w) (h:MpK k w b l) {x:Value} {lx:Lit} (a:keyOf Tryz.prog k x=some lx) (i:∀ p∈l,p.1≠x) :
  (Instr.lookup t (.map (some b)) x c).run Tryz.prog w=.ok (if c then .tuple #[z,.bool false] else z) w:=by
 obtain⟨es,cl,d,f,g,q,o⟩:=h;rcases MpK.find (w:=w) K f g a with⟨f1,_⟩ | ⟨j,l1,v,l2,_,f2,_⟩
 ·simp[Instr.lookup,run_underlying m,MapKept.run_getObj_map d,K.check w _ a,f1,n,Result.andThen]
 ·exact absurd rfl (i (x,v) (by rw[f2];simp))
theorem hDo {x v u:Value} {l1 l2 m1 m2:List KV} (h:((l1++(x,v)::l2).map Prod.fst).Nodup) (e:l1++(x,v)::l2=m1++(x,u)::m2):l1=m1∧v=u∧l2=m2:=by
 induction l1 generalizing m1 with
 |nil=>
  cases m1 with
  |nil=>simp at e;exact⟨rfl,e.1,e.2⟩
  |cons p r=>
   simp only[List.nil_append,List.cons_append,List.cons.injEq] at e;obtain⟨rfl,e2⟩:=e;rw[e2] at h;simp at h
 |cons p r ih=>
  cases m1 with
  |nil=>
   simp only[List.nil_append,List.cons_append,List.cons.injEq] at e;obtain⟨rfl,e2⟩:=e;simp at h
  |cons p' r'=>
   simp only[List.cons_append,List.cons.injEq] at e;obtain⟨rfl,e2⟩:=e;simp only[List.cons_append,List.map_cons,List.nodup_cons] at h;obtain⟨a,b,c⟩:=ih h.2 e2;exact⟨by rw[a],b,c⟩
theorem hAm {k:TypeId} {w:World} {t e:TypeId} {b:Nat} {l1 l2:List KV} (c:Bool) (K:Maps.Keyed Tryz.prog k) (l:Tryz.prog.underlying t=some (.map k e)) {x v:Value} (h:MpK k w b (l1++(x,v)::l2)) :
  (Instr.lookup t (.map (some b)) x c).run Tryz.prog w=.ok (if c then .tuple #[v,.bool true] else v) w:=by
 obtain⟨es,cl,f,g,a,i,m⟩:=h;obtain⟨lx,d⟩:=a (x,v) (by simp);rcases MpK.find (w:=w) K g a d with⟨_,f1⟩ | ⟨j,m1,u,m2,f1,f2,_⟩
 ·exact absurd rfl (f1 (x,v) (by simp))
 ·obtain⟨rfl,rfl,rfl⟩:=hDo i f2;simp[Instr.lookup,run_underlying l,MapKept.run_getObj_map f,K.check w _ d,f1,Result.andThen]
theorem hBn {w:World} {b:Nat} {x:Obj}:w.grownBy { w with heap:=w.heap.setIfInBounds b x } (some b):=by
 refine⟨rfl,rfl,rfl,by simp,fun g c a=>?_⟩;have:g≠b:=fun e=>a (by rw[e]);simp[Array.getElem?_setIfInBounds,Ne.symm this]
theorem hAs {k:TypeId} {w:World} {t e:TypeId} {b:Nat} {l:List KV} (K:Maps.Keyed Tryz.prog k) (z:Tryz.prog.underlying t=some (.map k e)) (h:MpK k w b l) {x:Value} {lx:Lit} (m:keyOf Tryz.prog k x=some lx) (v:Value) (i:∀ p∈l,p.1≠x) :
  ∃ w',(Instr.mapUpdate t (.map (some b)) x v).run Tryz.prog w=.ok () w'∧MpK k w' b (l++[(x,v)])∧w.grownBy w' (some b):=by
 obtain⟨es,cl,f,g,n,r,q⟩:=h;have o:=(zL f);rcases MpK.find (w:=w) K g n m with⟨f1,_⟩ | ⟨j,l1,u,l2,_,f2,_⟩
 ·refine⟨{ w with heap:=w.heap.setIfInBounds b (.map (es.push ⟨x,v,cl⟩) (cl+1)) },?_,⟨es.push ⟨x,v,cl⟩,cl+1,by simp[o],by simp[g],?_,?_,?_⟩,hBn⟩
  ·simp[Instr.mapUpdate,run_underlying z,MapKept.run_getObj_map f,K.check w _ m,f1,MapKept.run_setObj_map _ f,Result.andThen]
  ·intro p d;rcases List.mem_append.1 d with d | d
   ·exact n p d
   ·obtain rfl:=List.mem_singleton.1 d;exact⟨lx,m⟩
  ·rw[List.map_append,List.nodup_append];refine⟨r,by simp,fun a s c hc=>?_⟩;obtain⟨p,d,rfl⟩:=List.mem_map.1 s;simp at hc;rw[hc];exact i p d
  ·refine MapKept.stamped_push q (fun e y=>?_);exact i (e.key,e.val) (by rw[←g];exact List.mem_map.2 ⟨e,y,rfl⟩)
 ·exact absurd rfl (i (x,u) (by rw[f2];simp))
theorem hDg {k:TypeId} {w:World} {t e:TypeId} {b:Nat} {l1 l2:List KV} (K:Maps.Keyed Tryz.prog k) (q:Tryz.prog.underlying t=some (.map k e)) {x v:Value} (h:MpK k w b (l1++(x,v)::l2)) (v':Value) :
  ∃ w',(Instr.mapUpdate t (.map (some b)) x v').run Tryz.prog w=.ok () w'∧MpK k w' b (l1++(x,v')::l2)∧w.grownBy w' (some b):=by
 obtain⟨es,cl,f,m,c,g,l⟩:=h;have i:=(zL f);obtain⟨lx,d⟩:=c (x,v) (by simp);rcases MpK.find (w:=w) K m c d with⟨_,f1⟩ | ⟨j,m1,u,m2,f1,f2,f3,f4,f5,_⟩
 ·exact absurd rfl (f1 (x,v) (by simp))
 ·obtain⟨rfl,rfl,rfl⟩:=hDo g f2;have o:((es[j]?).map (·.key)).getD x=x:=by rw[f4];rfl
  refine⟨{ w with heap:=w.heap.setIfInBounds b (.map (es.modify j fun e=>{ e with key:=x,val:=v' }) cl) },?_,⟨_,cl,by simp[i],f5 v',?_,?_,?_⟩,hBn⟩
  ·have ks:=K.stays w d;simp only[Instr.mapUpdate,run_underlying q,MapKept.run_getObj_map f,K.check w _ d,f1,Sem.run_bind,Result.andThen,o,ks,MapKept.run_setObj_map _ f]
  ·intro p a;rcases List.mem_append.1 a with a | a
   ·exact c p (by simp[a])
   ·rcases List.mem_cons.1 a with rfl | a
    ·exact⟨lx,d⟩
    ·exact c p (by simp[a])
  ·simpa using g
  ·refine MapKept.stamped_modify l _ _ (fun _ _=>rfl) (fun e _ n=>?_);rw[n] at f4;exact(Option.some.inj f4).symm
theorem hWe {k:TypeId} {w:World} {t e:TypeId} {b:Nat} {l1 l2:List KV} (K:Maps.Keyed Tryz.prog k) (n:Tryz.prog.underlying t=some (.map k e)) {x v:Value} (h:MpK k w b (l1++(x,v)::l2)) (ty:TypeId) :
  ∃ w',(Builtin.delete_ #[t,k] ty #[.map (some b),x]).run Tryz.prog w=.ok (.tuple #[]) w'∧MpK k w' b (l1++l2)∧w.grownBy w' (some b):=by
 obtain⟨es,cl,d,m,c,f,i⟩:=h;have g:=(zL d);obtain⟨lx,l⟩:=c (x,v) (by simp);rcases MpK.find (w:=w) K m c l with⟨_,f1⟩ | ⟨j,m1,u,m2,f1,f2,f3,f4,f5,f6⟩
 ·exact absurd rfl (f1 (x,v) (by simp))
 ·obtain⟨rfl,rfl,rfl⟩:=hDo f f2;refine⟨{ w with heap:=w.heap.setIfInBounds b (.map (es.eraseIdxIfInBounds j) cl) },?_,⟨_,cl,by simp[g],f6,?_,?_,MapKept.stamped_erase i _⟩,hBn⟩
  ·simp[Builtin.delete_,run_underlying n,MapKept.run_getObj_map d,K.check w _ l,f1,MapKept.run_setObj_map _ d,Result.andThen]
  ·intro p a;rcases List.mem_append.1 a with a | a
   ·exact c p (by simp[a])
   ·exact c p (by simp[a])
  ·rw[List.map_append] at f ⊢;refine f.sublist (List.Sublist.append (List.Sublist.refl _) ?_);simp
theorem MpK.len {k:TypeId} {w:World} {b:Nat} {l:List KV} (h:MpK k w b l) {t e:TypeId} (f:Tryz.prog.underlying t=some (.map k e)) (ty:TypeId):(Builtin.len_ #[t] ty #[.map (some b)]).run Tryz.prog w=.ok (.int .i64 l.length) w:=by
 obtain⟨es,cl,a,c,_⟩:=h;have d:es.size=l.length:=by rw[←c];simp
 simp[Builtin.len_,run_underlying f,MapKept.run_getObj_map a,d,goInt,Result.andThen]
theorem hJ0:canonB oneNaN=true:=by kernel_rfl
theorem hDm (n:Nat):canon (canon n)=canon n:=by
 unfold canon;cases h:canonB n with
 |true=>simp[hJ0]
 |false=>simp[h]
theorem hE7 {b:Nat} (h:b<18446744073709551616):canon b<18446744073709551616:=by
 unfold canon;split
 ·decide
 ·exact h
theorem hTo (t:Nat):canonB ((t % 2)*2 ^ 63+0x7ff0000000000000+1+(t / 2) % (2 ^ 52 - 1))=true:=by
 have c:t % 2<2:=Nat.mod_lt _ (by decide);have d:(t / 2) % (2 ^ 52 - 1)<2 ^ 52 - 1:=Nat.mod_lt _ (by decide);generalize t % 2=a at c ⊢;generalize (t / 2) % (2 ^ 52 - 1)=b at d ⊢;unfold canonB Ieee.Format.order Ieee.Format.read;have e1:FloatKind.f64.format.signWeight=9223372036854775808:=rfl;have e2:FloatKind.f64.format.binade=4503599627370496:=rfl;have e3:FloatKind.f64.format.infRung=9218868437227405312:=rfl;simp only[e1,e2,e3];have e:(a*2 ^ 63+9218868437227405312+1+b) % 9223372036854775808=9218868437227405312+1+b:=by omega
 simp only[e];rw[if_neg (by omega),if_neg (by omega),if_neg (by omega)];rfl
theorem hO9 {x y:Nat} (h:FloatKind.f64.format.add x y=none) (t:TypeId) (w:World):∃ s w',(binOp .add t (Value.float .f64 x) (Value.float .f64 y)).run Tryz.prog w=.ok (.float .f64 s) w'∧canonB s=true∧Below w.heap.size w w':=by
 have a:(Question.nanBits FloatKind.f64 x y).forced=false:=rfl;refine⟨(Question.nanBits FloatKind.f64 x y).cut (w.tape w.drawn (Question.nanBits FloatKind.f64 x y)),w.drew,by simp[binOp,Op.floatArith,h,a],hTo _,⟨rfl,rfl,rfl,Nat.le_refl _,fun _ _=>rfl⟩⟩
theorem hKr (a:Nat):∃ r:Bool,∀ w,Calls Tryz.prog 332 #[.float .f64 a] w fun e w'=>e=.returned (.bool r)∧w=w':=by
 refine⟨decide (wrap64 a<0),fun w=>?_⟩;have b:=hHf;go_enter Tryz.func332,Tryz.ntmps332;go_wp2_with fail;go_ret;exact⟨rfl,rfl⟩
theorem hXp (a b:Nat):∃ r:Bool,∀ w,Calls Tryz.prog 327 #[.float .f64 a,.float .f64 b] w fun e w'=>e=.returned (.bool r)∧w=w':=by
 obtain⟨sa,d⟩:=hKr a;obtain⟨sb,f⟩:=hKr b;have c:=fun w=>zH (d w);have g:=fun w=>zH (f w);clear d f;cases h1:canonB a with
 |true=>
  refine⟨false,fun w=>?_⟩;unfold canonB at h1;go_enter Tryz.func327,Tryz.ntmps327;go_wp2_with fail;go_ret;exact⟨rfl,rfl⟩
 |false=>
  unfold canonB at h1;cases h2:canonB b with
  |true=>
   refine⟨true,fun w=>?_⟩;unfold canonB at h2;go_enter Tryz.func327,Tryz.ntmps327;go_wp2_with fail;go_ret;exact⟨rfl,rfl⟩
  |false=>
   unfold canonB at h2;cases h3:(FloatKind.f64.format.order a b == some .eq) with
   |true=>
    cases sa with
    |true=>
     refine⟨!sb,fun w=>?_⟩;go_enter Tryz.func327,Tryz.ntmps327;go_wp2_with fail;refine(c w).o.mono ?_;rintro e w1 ⟨rfl,rfl⟩;go_wp2_with fail;refine(g w).o.mono ?_;rintro e w1 ⟨rfl,rfl⟩;go_wp2_with fail;go_ret;exact⟨rfl,rfl⟩
    |false=>
     refine⟨false,fun w=>?_⟩;go_enter Tryz.func327,Tryz.ntmps327;go_wp2_with fail;refine(c w).o.mono ?_;rintro e w1 ⟨rfl,rfl⟩;go_wp2_with fail;go_ret;exact⟨rfl,rfl⟩
   |false=>
    refine⟨FloatKind.f64.format.order a b == some .lt,fun w=>?_⟩;go_enter Tryz.func327,Tryz.ntmps327;go_wp2_with fail;go_ret;exact⟨rfl,rfl⟩
theorem hGv (a b:Nat):∃ r:Nat,(canon r=r∧(a<18446744073709551616→b<18446744073709551616→r<18446744073709551616))∧∀ w,Calls Tryz.prog 316 #[.float .f64 a,.float .f64 b] w fun e w'=>e=.returned (.float .f64 r)∧w=w':=by
 obtain⟨s,d⟩:=hXp a b;have c:=fun w=>zH (d w);have f:=fun w=>zH (hDh a w);have g:=fun w=>zH (hDh b w);clear d;cases s with
 |true=>
  refine⟨canon b,⟨hDm _,fun _ i=>hE7 i⟩,fun w=>?_⟩;go_enter Tryz.func316,Tryz.ntmps316;go_wp2_with fail;refine(c w).o.mono ?_;rintro e w1 ⟨rfl,rfl⟩;go_wp2_with fail;refine(g w).o.mono ?_;rintro e w1 ⟨rfl,rfl⟩;go_wp2_with fail;go_ret;exact⟨rfl,rfl⟩
 |false=>
  refine⟨canon a,⟨hDm _,fun h _=>hE7 h⟩,fun w=>?_⟩;go_enter Tryz.func316,Tryz.ntmps316;go_wp2_with fail;refine(c w).o.mono ?_;rintro e w1 ⟨rfl,rfl⟩;go_wp2_with fail;refine(f w).o.mono ?_;rintro e w1 ⟨rfl,rfl⟩;go_wp2_with fail;go_ret;exact⟨rfl,rfl⟩
theorem hIi (a b:Nat):∃ r:Nat,(canon r=r∧(a<18446744073709551616→b<18446744073709551616→r<18446744073709551616))∧∀ w,Calls Tryz.prog 315 #[.float .f64 a,.float .f64 b] w fun e w'=>e=.returned (.float .f64 r)∧Below w.heap.size w w':=by
 cases h:FloatKind.f64.format.add a b with
 |some s=>
  refine⟨canon s,⟨hDm _,fun _ _=>hE7 (FloatKind.f64.format.add_lt h)⟩,fun w=>?_⟩;have c:=fun w=>zH (hDh s w);have d:=fun w=>run_float_arith (P:=Tryz.prog) w .add 32 .f64 a b s h;go_enter Tryz.func315,Tryz.ntmps315;go_wp2_with fail;refine(c w).o.mono ?_;rintro e w1 ⟨rfl,rfl⟩;go_wp2_with fail;go_ret;exact⟨rfl,Below.refl _ _⟩
 |none=>
  refine⟨oneNaN,⟨by unfold canon;rw[if_pos hJ0],fun _ _=>by decide⟩,fun w=>?_⟩;obtain⟨s,w0,d,g,f⟩:=hO9 h 32 w;have j:=zH (show canon s=oneNaN by unfold canon;rw[if_pos g]);have i:=zH f;have c:=fun w=>zH (hDh s w);clear g f h;go_enter Tryz.func315,Tryz.ntmps315;go_wp2_with fail;refine(c w0).o.mono ?_;rintro e w1 ⟨rfl,rfl⟩;rw[j.o];go_wp2_with fail;go_ret;exact⟨rfl,i.o⟩
theorem hSr (n:Nat) (h:canon n=n) (w:World):Calls Tryz.prog 309 #[.int .u64 (n:Int)] w fun e w'=>e=.returned (.tuple #[.float .f64 n,.bool true])∧w=w':=by
 have c:=hEp;have d:(n:Int).toNat=n:=by omega
 cases h1:canonB n with
 |true=>
  have:n=oneNaN:=by rw[←h];unfold canon;rw[h1];rfl
  have b:(n:Int)=9221120237041090560:=by rw[this];rfl
  unfold canonB at h1;have a:=zH this;clear h this;go_enter Tryz.func309,Tryz.ntmps309;go_wp2_with fail;go_ret2;rw[a.o];exact⟨rfl,rfl⟩
 |false=>
  unfold canonB at h1;clear h;go_enter Tryz.func309,Tryz.ntmps309;go_wp2_with fail;go_ret2;exact⟨rfl,rfl⟩
end Go.Proofs.YtlibpcllceepkaaGreat
