/- Joined texts of the claim. No condition. -/
import Derived.Test.YtlibpcllceepkaaGreatB14
import Derived.Test.YtlibpcllceepkaaGreatB11
import Derived.Test.YtlibpcllceepkaaGreatB00
import Derived.Test.YtlibpcllceepkaaGreatB18
import Derived.Test.YtlibpcllceepkaaGreatB05
namespace Go.Proofs.YtlibpcllceepkaaGreat
open Go.RowKit
set_option maxRecDepth 100000
set_option linter.unusedVariables false
set_option linter.unusedSimpArgs false
set_option maxHeartbeats 16000000
theorem hX9 (rho:Nat→Rq) (hr:ROk rho) (e:Nat) (he:e≤2) (I:((hist rho (4*e)).1.map Prod.fst).Nodup) (j:Nat) (o:Tags) (A:Option Addr) (c:Nat) (w:World) (Z:Mem w A c) :
  Calls Tryz.prog 260 #[.string (ledT rho e (4*e)),.agg #[.int .i64 e,.slice A 4 c]] w fun r w'=>∃ b kb o',r=.returned (.tuple #[.pointer (some ⟨b,0,none⟩),.bool true])∧LedAt w' o' j b kb rho e (4*e)∧(∀ x,x<w.heap.size→o' x=o x)∧w.heap.size≤b∧Below w.heap.size w w':=by
 have t:Below w.heap.size w (w.alloc (.cells #[.int .i64 e,.slice A 4 c] 31)):=(Below.refl _ _).alloc (Nat.le_refl _) _;have K:=zH t;have M:=zH (heap_alloc_new w (.cells #[.int .i64 e,.slice A 4 c] 31));have v:w.heap.size<(w.alloc (.cells #[.int .i64 e,.slice A 4 c] 31)).heap.size:=by simp
 have L:=zH (Z.keep t);have W:=fun o w=>zH (hVj rho hr e (4*e) (by omega) (by omega) (by omega) (by omega) I j o w);have R:=fun b kb o w h=>zH (hFg b kb j o rho e (4*e) w h);have U:=fun b kb o w h=>zH (hBu b kb j o rho e (4*e) w h);generalize ledT rho e (4*e)=T at W ⊢;have J:=v;have s:=W (o.ext w.heap.size 0) (w.alloc (.cells #[.int .i64 e,.slice A 4 c] 31));clear t Z hr I;go_enter Tryz.func260,Tryz.ntmps260;go_wp2_with fail;generalize w.alloc _=w0 at K M v L s J ⊢;refine s.o.mono ?_;rintro r w1 ⟨b,kb,o1,rfl,Q,ht,Hf,l⟩;have D:=zH Q;have X:zI (∀ x,x<w.heap.size→o1 x=o x):=zH (fun x hx=>(ht x (by omega)).trans (Tags.ext_old _ _ _ _ hx));have z:=zH (zB K.o l);have q:=zH ((l.block _ v).trans M.o);have F:=zH (L.o.keep l);have Y:w.heap.size≤b:=by omega
 have C:=R b kb o1 w1 Q;clear Q ht l K M L s v J;go_wp2_with fail;refine C.o.mono ?_;rintro r w2 ⟨A2,C2,rfl,H,u⟩;have g:=(Below.refl w2.heap.size w2).alloc (Nat.le_refl _) (.cells #[.int .i64 e,.slice A2 4 C2] 31);have f:Below w1.heap.size w1 (w2.alloc (.cells #[.int .i64 e,.slice A2 4 C2] 31)):=u.trans (g.mono u.size);have i:=zH (zB z.o f);have k:=zH (D.o.fix (P:=fun _=>True) (Fix.same f) trivial trivial);have d:=zH ((f.block _ (zL q.o)).trans q.o);have p:=zH (F.o.keep f);have a:=zH (heap_alloc_new w2 (.cells #[.int .i64 e,.slice A2 4 C2] 31));have m:=zH (H.1.keep g);obtain⟨cb,G⟩:=zN (w2.heap.size);clear H u g f z D q F C;go_wp2_with fail;rw[←G] at a ⊢;clear G;generalize w2.alloc _=w3 at i k d p a m ⊢;have z1:=(zL d.o);have z2:=(zL a.o);have a0:=(zR w3 w.heap.size 0 _ _ _ d.o).trans (show _=some (Value.int .i64 e) from rfl);have a1:=(zR w3 w.heap.size 1 _ _ _ d.o).trans (show _=some (Value.slice A 4 c) from rfl);have b0:=zQ w3 cb 0 (.int .i64 e) a.o;have b1:=zQ w3 cb 1 (.slice A2 4 C2) a.o;have u0:=fun y:Bel w3.heap.size w3=>y.cell z1 a0;have u1:=fun y:Bel w3.heap.size w3=>y.cell z1 a1;have v0:=fun y:Bel w3.heap.size w3=>y.cell z2 b0;have v1:=fun y:Bel w3.heap.size w3=>y.cell z2 b1;have V:=fun y:Bel w3.heap.size w3=>zH ((equal4 A2 C2 A c y.w (m.o.keep y.h) (p.o.keep y.h)).mono (R':=fun r w'=>r=.returned (.bool true)∧Below y.w.heap.size y.w w') (fun r w' ⟨N,n,O⟩=>⟨N,by rw[O];exact hAc (Below.refl _ _) n⟩));have S:=fun y:Bel w3.heap.size w3=>zH ((U b kb o1 y.w (k.o.fix (P:=fun _=>True) (Fix.same y.h) trivial trivial)).o.mono (R':=fun r w'=>r=.returned (.int .i64 ((e:Int)*4))∧Below y.w.heap.size y.w w') (fun r w' ⟨N,O⟩=>⟨by rw[N];congr 2;omega,by rw[←O];exact Below.refl _ _⟩));have p3:(0:Int)≤(e:Int):=by omega
 have p4:(e:Int)≤2:=by omega
 refine hAg w3.heap.size w3 (by kernel_rfl) (by kernel_rfl) (Below.refl _ _) ?_;repeat (go_big_quiet_step (first | (go_at_call 205;exact hAq (Nat.le_refl _) (V _).o) | (go_at_call 41;exact hAq (Nat.le_refl _) (S _).o)))
 refine wpQuiet_nil ?_;rintro _ ⟨y,rfl⟩;have B:=zH (i.o.trans (y.h.mono i.o.size));have E:=zH (k.o.fix (P:=fun _=>True) (Fix.same y.h) trivial trivial);clear u0 u1 v0 v1 V S a0 a1 b0 b1 z1 z2 i k d p a m;generalize y.w=w4 at B E ⊢;go_wp2_with fail;go_ret2;exact⟨b,kb,o1,rfl,E.o,X.o,Y,B.o⟩
theorem hLy (e f v:Nat) (P:e≤60) (Q:f<16) (O:1≤v) (R:v≤15) (by_:Int) (t:ByteArray) (w:World) :
  Calls Tryz.prog 236 #[.int .i64 e,.agg #[.int .i64 f,.int .i64 v,.slice none 0 0,.int .i64 by_,.string t]] w fun r w'=>r=.returned (.tuple #[.string (chT e v f),.int .i64 0])∧Below w.heap.size w w':=by
 have B:Below w.heap.size w (w.alloc (.cells #[.int .i64 f,.int .i64 v,.slice none 0 0,.int .i64 by_,.string t] 208)):=(Below.refl _ _).alloc (Nat.le_refl _) _;have g:=zH (heap_alloc_new w (.cells #[.int .i64 f,.int .i64 v,.slice none 0 0,.int .i64 by_,.string t] 208));have h:=zH B;have l:w.heap.size<(w.alloc (.cells #[.int .i64 f,.int .i64 v,.slice none 0 0,.int .i64 by_,.string t] 208)).heap.size:=by simp
 have N:=fun w=>zH (hEz 65535 (by decide) w);have K:zI (chT e v f=bs (beL 1 86++beL 2 e++beL 1 f++beL 1 v++beL 1 0)):=zH rfl;generalize chT e v f=T at K ⊢;have p1:(0:Int)≤(e:Int):=by omega
 have p2:(e:Int)≤60:=by omega
 have p3:(0:Int)≤(f:Int):=by omega
 have p4:¬ (16:Int)≤(f:Int):=by omega
 have p5:¬ (v:Int)<1:=by omega
 have p6:(v:Int)≤15:=by omega
 clear B;go_enter Tryz.func236,Tryz.ntmps236;go_wp2_with fail;generalize w.alloc _=w0 at h g l ⊢;have c0:=(zR w0 w.heap.size 0 _ _ _ g.o).trans (show _=some (Value.int .i64 f) from rfl);have c1:=(zR w0 w.heap.size 1 _ _ _ g.o).trans (show _=some (Value.int .i64 v) from rfl);have c2:=(zR w0 w.heap.size 2 _ _ _ g.o).trans (show _=some (Value.slice none 0 0) from rfl);go_wp2_with fail;refine(N w0).o.mono ?_;rintro r w3 ⟨rfl,C,a⟩;have G:=zH ((a.block _ l).trans g.o);have m:=zH (h.o.trans (a.mono (Nat.le_of_lt l)));obtain⟨b,k⟩:=zN (w0.heap.size);have i:=zH C;rw[←k] at i;rw[←k];have c:w.heap.size<b:=by omega
 clear a C k h g c0 c1 c2 l;go_wp2_with fail;refine(hA5 b _ _ 86 (by decide) (by simp) (by omega) w3 i.o).mono ?_;rintro r w4 ⟨rfl,d,a,_⟩;have H:=zH ((a.block _ c).trans G.o);have n:=zH (m.o.trans (a.mono (Nat.le_of_lt c)));have u:=zH d;clear a d G m i;go_wp2_with fail;refine(hJp b _ _ e (by omega) (by simp[beL]) (by omega) w4 u.o).mono ?_;rintro r w5 ⟨rfl,d,a⟩;have D:=zH ((a.block _ c).trans H.o);have p:=zH (n.o.trans (a.mono (Nat.le_of_lt c)));have x:=zH d;clear a d H n u;have c0:=(zR w5 w.heap.size 0 _ _ _ D.o).trans (show _=some (Value.int .i64 f) from rfl);go_wp2_with fail;refine(hA5 b _ _ f (by omega) (by simp[beL]) (by omega) w5 x.o).mono ?_;rintro r w6 ⟨rfl,d,a,_⟩;have E:=zH ((a.block _ c).trans D.o);have q:=zH (p.o.trans (a.mono (Nat.le_of_lt c)));have y:=zH d;clear a d D p x c0;have c1:=(zR w6 w.heap.size 1 _ _ _ E.o).trans (show _=some (Value.int .i64 v) from rfl);go_wp2_with fail;refine(hA5 b _ _ v (by omega) (by simp[beL]) (by omega) w6 y.o).mono ?_;rintro r w7 ⟨rfl,d,a,_⟩;have F:=zH ((a.block _ c).trans E.o);have s:=zH (q.o.trans (a.mono (Nat.le_of_lt c)));have z:=zH d;clear a d E q y c1;have c2:=(zR w7 w.heap.size 2 _ _ _ F.o).trans (show _=some (Value.slice none 0 0) from rfl);go_wp2_with fail;refine(hA5 b _ _ 0 (by omega) (by simp[beL]) (by omega) w7 z.o).mono ?_;rintro r w8 ⟨rfl,d,a,_⟩;have L:=zH ((a.block _ c).trans F.o);have I:=zH (s.o.trans (a.mono (Nat.le_of_lt c)));have J:=zH d;clear a d F s z c2;have c2:=(zR w8 w.heap.size 2 _ _ _ L.o).trans (show _=some (Value.slice none 0 0) from rfl);go_wp2_with fail;go_loopw [7,9,10,11,13,70] (fun _ _ _ _ _ j wr=>j=.int .i64 0∧w8=wr) (fun _ _ _ _ _ _ _=>0)
 case atStart=>exact⟨rfl,rfl⟩
 case round=>
  obtain⟨rfl,rfl⟩:=hrel;go_wp2_with fail;refine(hD6 b _ _ w8 J.o).mono ?_;rintro r wx ⟨rfl,rfl⟩;have M:zI (bs ([]++beL 1 86++beL 2 e++beL 1 f++beL 1 v++beL 1 0)=T):=zH (by rw[K.o];rfl);rw[M.o];go_wp2_with fail;go_ret2;exact⟨rfl,I.o⟩
def TmAt (w:World) (T f:Nat) (run:Bool) (en:Nat):Prop:=w.heap[T]?=some (.cells #[.int .i64 f,.bool run,.int .i64 en] 178 (0,0))
def waitN (f:Nat):Nat:=min (8*2 ^ f) 512
theorem TmAt.lt {w:World} {T f:Nat} {run:Bool} {en:Nat} (h:TmAt w T f run en):T<w.heap.size:=(zL h)
theorem TmAt.cells {w:World} {T f:Nat} {run:Bool} {en:Nat} (h:TmAt w T f run en):(w.cell? ⟨T,0,none⟩=some (.int .i64 f)∧w.cell? ⟨T,1,none⟩=some (.bool run)∧w.cell? ⟨T,2,none⟩=some (.int .i64 en))∧(∀ k,w.frozen? ⟨T,k,none⟩=false):=
 ⟨⟨zR w T 0 _ _ _ h,zR w T 1 _ _ _ h,zR w T 2 _ _ _ h⟩,fun k=>frozen_of_row w T k _ _ h⟩
theorem hZq (w:World):Calls Tryz.prog 48 #[] w fun e w'=>e=.returned (.pointer (some ⟨w.heap.size,0,none⟩))∧w'=w.alloc (.cells #[.int .i64 0,.bool false,.int .i64 0] 178):=by
 go_enter Tryz.func48,Tryz.ntmps48;go_wp2_with fail;go_ret;exact⟨rfl,rfl⟩
theorem hSj (n:Nat) (c:n≤100000) (w:World):Calls Tryz.prog 229 #[.int .i64 n] w fun e w'=>e=.returned (.int .i64 n)∧w=w':=by
 have a:(0:Int)≤(n:Int):=by omega
 have b:(n:Int)≤1099511627776:=by omega
 have e0:max (n:Int) 0=(n:Int):=by omega
 have e1:min (n:Int) 1099511627776=(n:Int):=by omega
 go_enter Tryz.func229,Tryz.ntmps229;go_wp2_with fail;go_ret;exact⟨rfl,rfl⟩
theorem hUq (T f:Nat) (a:f≤6) (run:Bool) (en:Nat) (w:World) (h:TmAt w T f run en):Calls Tryz.prog 265 #[.pointer (some ⟨T,0,none⟩)] w fun e w'=>e=.returned (.int .i64 ((waitN f:Nat):Int))∧w=w':=by
 obtain⟨⟨c0,c1,c2⟩,_⟩:=h.cells;clear h;obtain rfl | rfl | rfl | rfl | rfl | rfl | rfl:f=0∨f=1∨f=2∨f=3∨f=4∨f=5∨f=6:=by omega
 all_goals
  go_enter Tryz.func265,Tryz.ntmps265;go_wp2_with fail;go_ret;exact⟨rfl,rfl⟩
theorem hUh (T f:Nat) (en n:Nat) (w:World) (h:TmAt w T f true en):Calls Tryz.prog 234 #[.pointer (some ⟨T,0,none⟩),.int .i64 n] w fun e w'=>e=.returned (.tuple #[])∧w=w':=by
 obtain⟨⟨c0,c1,c2⟩,_⟩:=h.cells;clear h;go_enter Tryz.func234,Tryz.ntmps234;go_wp2_with fail;refine bodyPost_ret (results_none rfl _ _ _) rfl ?_;exact⟨rfl,rfl⟩
theorem hNw (T f:Nat) (j:f≤6) (en n:Nat) (l:n≤100000) (w:World) (h:TmAt w T f false en):Calls Tryz.prog 234 #[.pointer (some ⟨T,0,none⟩),.int .i64 n] w fun e w'=>e=.returned (.tuple #[])∧TmAt w' T f true (n+waitN f)∧w.grownBy w' (some T):=by
 obtain⟨⟨c0,c1,c2⟩,fz⟩:=h.cells;have g:=heap_setCell_same w T 1 _ _ (.bool true) h;have a:zI (TmAt (w.setCell ⟨T,1,none⟩ (.bool true)) T f true en):=zH g;have d:w.grownBy (w.setCell ⟨T,1,none⟩ (.bool true)) (some T):=hAb (hAa (Below.refl _ _) _) (p:=⟨T,1,none⟩) (.inl rfl) _;have c:=zH d;have f1:=fz 1;have b:=zH (hUq T f j true en _ a.o);have i:=fun w=>zH (hSj n l w);have m:waitN f≤512:=by unfold waitN;omega
 generalize waitN f=k at b m ⊢;clear h g d fz;go_enter Tryz.func234,Tryz.ntmps234;go_wp2_with fail;generalize w.setCell ⟨T,1,none⟩ (.bool true)=w1 at a c b ⊢;clear c0 c1 c2 f1;refine(i w1).o.mono ?_;rintro e w2 ⟨rfl,rfl⟩;obtain⟨⟨c0,c1,c2⟩,fz⟩:=a.o.cells;have f2:=fz 2;clear fz;go_wp2_with fail;refine b.o.mono ?_;rintro e w2 ⟨rfl,rfl⟩;go_wp2_with fail;go_end0;refine⟨rfl,?_,hEu c.o (hAb (hAa (Below.refl _ _) _) (p:=⟨T,2,none⟩) (.inl rfl) _)⟩;unfold TmAt;rw[heap_setCell_same w1 T 2 _ _ _ a.o];rfl
theorem hUi (T f:Nat) (run:Bool) (en:Nat) (w:World) (h:TmAt w T f run en):Calls Tryz.prog 233 #[.pointer (some ⟨T,0,none⟩)] w fun e w'=>e=.returned (.tuple #[])∧TmAt w' T f false en∧w.grownBy w' (some T):=by
 obtain⟨⟨c0,c1,c2⟩,fz⟩:=h.cells;have f1:=fz 1;have H:=zH h;clear h fz;go_enter Tryz.func233,Tryz.ntmps233;go_wp2_with fail;go_end0;exact⟨rfl,heap_setCell_same w T 1 _ _ _ H.o,hAb (hAa (Below.refl _ _) _) (p:=⟨T,1,none⟩) (.inl rfl) _⟩
theorem hLv (T f:Nat) (run:Bool) (en:Nat) (w:World) (h:TmAt w T f run en):Calls Tryz.prog 279 #[.pointer (some ⟨T,0,none⟩)] w fun e w'=>e=.returned (.tuple #[])∧TmAt w' T 0 run en∧w.grownBy w' (some T):=by
 obtain⟨⟨c0,c1,c2⟩,fz⟩:=h.cells;have f1:=fz 0;have H:=zH h;clear h fz;go_enter Tryz.func279,Tryz.ntmps279;go_wp2_with fail;go_end0;exact⟨rfl,heap_setCell_same w T 0 _ _ _ H.o,hAb (hAa (Below.refl _ _) _) (p:=⟨T,0,none⟩) (.inl rfl) _⟩
theorem hY5 (T f:Nat) (d:f≤5) (run:Bool) (en:Nat) (w:World) (h:TmAt w T f run en):Calls Tryz.prog 232 #[.pointer (some ⟨T,0,none⟩)] w fun e w'=>e=.returned (.tuple #[])∧TmAt w' T (f+1) run en∧w.grownBy w' (some T):=by
 obtain⟨⟨c0,c1,c2⟩,fz⟩:=h.cells;have f1:=fz 0;have H:=zH h;have a:=zH (hUq T f (by omega) run en w h);have b:((waitN f:Nat):Int)<512:=by
  obtain rfl | rfl | rfl | rfl | rfl | rfl:f=0∨f=1∨f=2∨f=3∨f=4∨f=5:=by omega
  all_goals decide
 have c:(f:Int)≤5:=by omega
 generalize waitN f=k at a b;clear h fz;go_enter Tryz.func232,Tryz.ntmps232;go_wp2_with fail;refine a.o.mono ?_;rintro e w2 ⟨rfl,rfl⟩;go_wp2_with fail;go_end0;refine⟨rfl,?_,hAb (hAa (Below.refl _ _) _) (p:=⟨T,0,none⟩) (.inl rfl) _⟩;unfold TmAt;rw[heap_setCell_same w T 0 _ _ _ H.o];rfl
theorem hKp (T f:Nat) (run:Bool) (en:Nat) (w:World) (h:TmAt w T f run en):Calls Tryz.prog 228 #[.pointer (some ⟨T,0,none⟩)] w fun e w'=>e=.returned (.bool run)∧w=w':=by
 obtain⟨⟨c0,c1,c2⟩,fz⟩:=h.cells;clear h fz;go_enter Tryz.func228,Tryz.ntmps228;go_wp2_with fail;go_ret;exact⟨rfl,rfl⟩
theorem hY4 (T f:Nat) (en n:Nat) (w:World) (h:TmAt w T f false en):Calls Tryz.prog 215 #[.pointer (some ⟨T,0,none⟩),.int .i64 n] w fun e w'=>e=.returned (.bool false)∧Below w.heap.size w w':=by
 obtain⟨⟨c0,c1,c2⟩,fz⟩:=h.cells;have a:=fun n=>zH (hKp T f false en (w.drewN n) h);clear h fz;go_enter Tryz.func215,Tryz.ntmps215;go_wp2_with fail;go_quiet ((go_at_call 228;exact Calls.quiet_of_same ((a _).o.mono fun _ _ h=>⟨h.1,h.2.symm⟩)))
 go_wp2_with fail;go_ret;exact⟨rfl,hAc (Below.refl _ _) _⟩
theorem hXc (T f:Nat) (en n:Nat) (i:n≤100000) (b:Bool) (a:decide (en≤n)=b) (w:World) (h:TmAt w T f true en):Calls Tryz.prog 215 #[.pointer (some ⟨T,0,none⟩),.int .i64 n] w fun e w'=>e=.returned (.bool b)∧Below w.heap.size w w':=by
 obtain⟨⟨c0,c1,c2⟩,fz⟩:=h.cells;have g:=fun n=>zH (hKp T f true en (w.drewN n) h);have d:=fun w=>zH (hSj n i w);have c:=zH a;clear h fz a;go_enter Tryz.func215,Tryz.ntmps215;go_wp2_with fail;go_quiet (first | (go_at_call 228;exact Calls.quiet_of_same ((g _).o.mono fun _ _ h=>⟨h.1,h.2.symm⟩)) | (go_at_call 229;exact Calls.quiet_of_same ((d _).o.mono fun _ _ h=>⟨h.1,h.2.symm⟩)))
 go_wp2_with fail;go_ret;refine⟨?_,hAc (Below.refl _ _) _⟩;rw[←c.o];rfl
structure ChgR (k:Nat) (o o':Tags) (w w':World):Prop where
 os:w'.os=w.os
 tape:w'.tape=w.tape
 output:w'.output=w.output
 size:w.heap.size≤w'.heap.size
 tags:∀ b,b<w.heap.size→o' b=o b
 block:∀ b,b<w.heap.size→o b / 16≠k→w'.heap[b]?=w.heap[b]?
 term:∀ b,b<w.heap.size→o b % 16=2→∀ c,w.heap[b]?=some (.cells c 188 (0,0))→∃ c':Array Value,w'.heap[b]?=some (Obj.cells c' 188 (0,0))
theorem ChgR.refl (i:Nat) (o:Tags) (w:World):ChgR i o o w w:=⟨rfl,rfl,rfl,Nat.le_refl _,fun _ _=>rfl,fun _ _ _=>rfl,fun _ _ _ c h=>⟨c,h⟩⟩
theorem ChgR.trans {i:Nat} {o o1 o2:Tags} {w w1 w2:World} (h:ChgR i o o1 w w1) (k:ChgR i o1 o2 w1 w2):ChgR i o o2 w w2:=
 ⟨k.os.trans h.os,k.tape.trans h.tape,k.output.trans h.output,Nat.le_trans h.size k.size,fun b a=>(k.tags b (Nat.lt_of_lt_of_le a h.size)).trans (h.tags b a),fun b a d=>(k.block b (Nat.lt_of_lt_of_le a h.size) (by rw[h.tags b a];exact d)).trans (h.block b a d),fun b a d c hc=>by
  obtain⟨c1,e⟩:=h.term b a d c hc;exact k.term b (Nat.lt_of_lt_of_le a h.size) (by rw[h.tags b a];exact d) c1 e⟩
theorem Chg.r {k p:Nat} {o o':Tags} {w w':World} (h:Chg (16*k+p) o o' w w') (f:p<16∧p≠2):ChgR k o o' w w':=
 ⟨h.os,h.tape,h.output,h.size,h.tags,fun b a d=>h.block b a (fun e=>d (by rw[e];omega)),fun b a d c hc=>⟨c,(h.block b a (fun e=>by omega)).trans hc⟩⟩
theorem Chg.r2 {k:Nat} {o o':Tags} {w w':World} (h:Chg (16*k+2) o o' w w') (f:∀ (b:Nat) (c:Array Value),w.heap[b]?=some (Obj.cells c 188 (0,0))→∃ c':Array Value,w'.heap[b]?=some (Obj.cells c' 188 (0,0))):ChgR k o o' w w':=
 ⟨h.os,h.tape,h.output,h.size,h.tags,fun b a d=>h.block b a (fun e=>d (by rw[e];omega)),fun b a d c hc=>f b c hc⟩
theorem ChgR.below {k:Nat} {o o':Tags} {w w':World} (h:Below w.heap.size w w') (d:∀ b,b<w.heap.size→o' b=o b):ChgR k o o' w w':=
 ⟨h.os,h.tape,h.output,h.size,d,fun b a _=>h.block b a,fun b a _ c hc=>⟨c,(h.block b a).trans hc⟩⟩
theorem ChgR.fix {k:Nat} {o o':Tags} {w w':World} (h:ChgR k o o' w w') {P:Nat→Prop} (c:∀ t,P t→t / 16≠k):Fix P o o' w w':=
 ⟨h.size,fun b a d=>⟨h.tags b a,h.block b a (c _ d)⟩⟩
structure RB where
 tb:Nat
 lb:Nat
 ms:Nat→Nat
 tl:Nat
 vm:Nat
 cm:Nat
 mb:Nat
 M:Option Addr
 mc:Nat
 bk:Nat
 kb:Nat
 ch:Nat
 tm:Nat
 S:Option Addr
 sc:Nat
 H:Option Addr
 hc:Nat
 O:Option Addr
 oc:Nat
 SA:Option Addr
 sac:Nat
 MA:Option Addr
 mac:Nat
 LA:Option Addr
 lac:Nat
def wcl (n:Nat):Nat:=if n=0 then 0 else 1
def wby (n:Nat):Nat:=if n=0 then 0 else 101
noncomputable def wrq (rho:Nat→Rq) (n:Nat):Rq:=if n=0 then zeroRq else rho n
noncomputable def wtx (rho:Nat→Rq) (n:Nat):ByteArray:=if n=0 then⟨#[]⟩ else(rho n).t
noncomputable def repC (rho:Nat→Rq) (z:RB) (r:SRep):Array Value:=
 #[.pointer (some ⟨z.tb,0,none⟩),.int .i64 r.id,.pointer (some ⟨z.bk,0,none⟩),.pointer (some ⟨z.ch,0,none⟩),.pointer (some ⟨z.tm,0,none⟩),.int .i64 0,.int .i64 0,.int .i64 0,.string ⟨#[]⟩,.float .f64 0,.int .i64 0,.int .i64 0,.string ⟨#[]⟩,.int .i64 ((wcl r.waiting:Nat):Int),.int .i64 ((wrq rho r.waiting).st:Int),.int .i64 ((wrq rho r.waiting).kind:Int),.string (wrq rho r.waiting).key,.float .f64 (wrq rho r.waiting).real,.int .i64 0,.int .i64 ((wby r.waiting:Nat):Int),.string (wtx rho r.waiting),.int .i64 0,.int .i64 0,.int .i64 0,.string ⟨#[]⟩,.float .f64 0,.int .i64 0,.int .i64 0,.string ⟨#[]⟩,.int .i64 0,.int .i64 0,.int .i64 0,.string ⟨#[]⟩,.float .f64 0,.int .i64 0,.int .i64 0,.string ⟨#[]⟩,.int .i64 0,.int .i64 0,.int .i64 0,.string ⟨#[]⟩,.float .f64 0,.int .i64 0,.int .i64 0,.string ⟨#[]⟩,.int .i64 0,.int .i64 0,.int .i64 0,.string ⟨#[]⟩,.float .f64 0,.int .i64 0,.int .i64 0,.string ⟨#[]⟩,.int .i64 0,.int .i64 0,.int .i64 0,.string ⟨#[]⟩,.float .f64 0,.int .i64 0,.int .i64 0,.string ⟨#[]⟩,.int .i64 0,.int .i64 0,.int .i64 0,.string ⟨#[]⟩,.float .f64 0,.int .i64 0,.int .i64 0,.string ⟨#[]⟩,.int .i64 0,.int .i64 0,.int .i64 0,.string ⟨#[]⟩,.float .f64 0,.int .i64 0,.int .i64 0,.string ⟨#[]⟩,.slice z.S r.says.length z.sc,.string (if (r.settled.getD []).length=0 then⟨#[]⟩ else(ledT rho 1 4)),.slice z.SA (r.settled.getD []).length z.sac,.int .i64 (if (r.settled.getD []).length=0 then 0 else((0:Nat):Int)+1),.slice z.MA (if (r.settled.getD []).length=0 then 0 else 4) z.mac,.slice z.LA (r.settled.getD []).length z.lac,.int .i64 r.left,.bool false,.slice z.H r.hist z.hc,.slice z.O r.o.length z.oc,.int .i64 r.now]
def termC (z:RB) (r:SRep):Array Value:=#[.pointer (some ⟨z.lb,0,none⟩),.pointer (some ⟨z.tl,0,none⟩),.map (some z.mb),.int .i64 r.log.e,.slice z.M 4 z.mc,.bool r.active,.bool r.voted,.int .i64 r.next]
def chL (e:Nat) (l:List (Nat×Nat)):List KV:=l.map fun p=>(.int .i64 p.1,.agg (encCh (p.1,p.2,chT e p.2 p.1)).toArray)
def chainL:Option (List Nat)→List (List Nat)
 |none=>[]
 |some b=>[b]
structure Num (r:SRep) (m:Nat):Prop where
 id:r.id<4
 e:r.log.e≤1
 v:r.log.v≤15
 d:r.d≤8
 votes:∀ x∈r.votes,x<4
 nodup:r.votes.Nodup
 chs:∀ p∈r.changes,p.1<4
 chn:(r.changes.map Prod.fst).Nodup
 nx1:1≤r.next
 nx9:r.next≤9
 fails:r.fails≤1
 tend:r.tend≤10000
 wait:r.waiting≤8
 says:r.says.length+m≤1000
 o:r.o.length+m≤3000
 hist:r.hist+m≤1000
 sok:∀ x∈r.says,SMsg.ok x=true
 left:r.left≤64
 now:r.now≤5000
structure SetAt (w:World) (o:Tags) (rho:Nat→Rq) (SA:Option Addr) (sac:Nat) (MA:Option Addr) (mac:Nat) (LA:Option Addr) (lac:Nat) (s:Option (List Nat)):Prop where
 no:s=none→SA=none∧sac=0∧MA=none∧mac=0∧LA=none∧lac=0
 yes:∀ bys,s=some bys→3≤bys.length∧SlD encS w o SA bys.length sac (sgl bys (stateT 4 (ledT rho 1 4)))∧MemD w o MA mac∧SlD encS w o LA bys.length lac (sgl bys (confT 1))
theorem SetAt.fix {P:Nat→Prop} {o o':Tags} {w w':World} {rho:Nat→Rq} {SA:Option Addr} {sac:Nat} {MA:Option Addr} {mac:Nat} {LA:Option Addr} {lac:Nat} {s:Option (List Nat)} (h:SetAt w o rho SA sac MA mac LA lac s) (f:Fix P o o' w w') (a:P 0):SetAt w' o' rho SA sac MA mac LA lac s:=
 ⟨h.no,fun bys e=>by
  obtain⟨b,c,d,g⟩:=h.yes bys e;exact⟨b,c.fix f a,d.fix f a,g.fix f a⟩⟩
abbrev tg (id p:Nat):Nat:=16*(id+1)+p
noncomputable def pkF (rho:Nat→Rq) (id:Nat) (p:Nat×SMsg):PkT:=(id,p.1,p.2.fm rho)
def RepP (rho:Nat→Rq) (b:Nat) (z:RB) (r:SRep) (be:Nat) (p:Nat) (w:World) (o:Tags):Prop:=
 match p with
 |1=>Blk w o (tg r.id 1) b 125 (repC rho z r)
 |2=>Blk w o (tg r.id 2) z.tb 188 (termC z r)
 |3=>LogAt w o (tg r.id 3) z.lb z.ms rho r.log
 |4=>TalAt w o (tg r.id 4) z.tl z.vm z.cm r.log.e (ledT rho (r.log.e+1) (4*(r.log.e+1))) r.votes
 |5=>MpK 3 w z.mb (chL r.log.e r.changes)∧o z.mb=tg r.id 5
 |6=>LedAt w o (tg r.id 6) z.bk z.kb rho be r.d
 |7=>TrAt w o (tg r.id 7) z.ch (chainL r.chain)
 |8=>TmAt w z.tm r.fails r.running r.tend∧o z.tm=tg r.id 8
 |9=>∃ xs,Row w o (tg r.id 9) 48 17 (.slice z.S r.says.length z.sc) r.says.length xs∧Lst (MsgV w o) (r.says.map (SMsg.fm rho)) xs
 |10=>∃ xs,Row w o (tg r.id 10) 95 7 (.slice z.H r.hist z.hc) r.hist xs
 |11=>∃ xs,Row w o (tg r.id 11) 92 19 (.slice z.O r.o.length z.oc) r.o.length xs∧Lst (PkV w o) (r.o.map (pkF rho r.id)) xs
 |12=>SetAt w o rho z.SA z.sac z.MA z.mac z.LA z.lac r.settled
 |13=>MemD w o z.M z.mc
 |_=>True
structure RepF (w:World) (o:Tags) (rho:Nat→Rq) (b:Nat) (z:RB) (r:SRep) (be m:Nat):Prop where
 num:Num r m
 part:∀ p,RepP rho b z r be p w o
theorem MpK.fixT {P:Nat→Prop} {o o':Tags} {k:TypeId} {w w':World} {b:Nat} {l:List KV} (h:MpK k w b l) (f:Fix P o o' w w') (a:P (o b)):MpK k w' b l∧o' b=o b:=
 ⟨h.fix f a,(f.block b h.lt a).1⟩
theorem TmAt.fix {P:Nat→Prop} {o o':Tags} {w w':World} {T f en:Nat} {run:Bool} (h:TmAt w T f run en) (g:Fix P o o' w w') (a:P (o T)):TmAt w' T f run en∧o' T=o T:=by
 obtain⟨t1,t2⟩:=g.block T h.lt a;exact⟨t2.trans h,t1⟩
theorem hHy {P:Nat→Prop} {o o':Tags} {w w':World} {l:List FM} {xs:List Value} (h:Lst (MsgV w o) l xs) (f:Fix P o o' w w') (a:P 0):Lst (MsgV w' o') l xs:=h.imp fun _ _ b=>b.fix f a
theorem hGx {P:Nat→Prop} {o o':Tags} {w w':World} {l:List PkT} {xs:List Value} (h:Lst (PkV w o) l xs) (f:Fix P o o' w w') (a:P 0):Lst (PkV w' o') l xs:=h.imp fun _ _ b=>b.fix f a
theorem RepP.fix {P:Nat→Prop} {o o':Tags} {w w':World} {rho:Nat→Rq} {b:Nat} {z:RB} {r:SRep} {be:Nat} (f:Fix P o o' w w') (g:P 0):∀ p,P (tg r.id p)→RepP rho b z r be p w o→RepP rho b z r be p w' o'
 |0,_,_=>trivial
 |1,hp,h=>Blk.fix h f hp
 |2,hp,h=>Blk.fix h f hp
 |3,hp,h=>LogAt.fix h f hp g
 |4,hp,h=>TalAt.fix h f hp g
 |5,hp,h=>by
  obtain⟨d,e⟩:=h;obtain⟨a,c⟩:=d.fixT f (by rw[e];exact hp);exact⟨a,c.trans e⟩
 |6,hp,h=>LedAt.fix h f hp g
 |7,hp,h=>TrAt.fix h f hp g
 |8,hp,h=>by
  obtain⟨d,e⟩:=h;obtain⟨a,c⟩:=d.fix f (by rw[e];exact hp);exact⟨a,c.trans e⟩
 |9,hp,h=>by
  obtain⟨xs,d,e⟩:=h;exact⟨xs,d.fix f hp,hHy e f g⟩
 |10,hp,h=>by
  obtain⟨xs,d⟩:=h;exact⟨xs,d.fix f hp⟩
 |11,hp,h=>by
  obtain⟨xs,d,e⟩:=h;exact⟨xs,d.fix f hp,hGx e f g⟩
 |12,_,h=>SetAt.fix h f g
 |13,_,h=>MemD.fix h f g
 |_+14,_,_=>trivial
theorem RepF.fix {P:Nat→Prop} {o o':Tags} {w w':World} {rho:Nat→Rq} {b:Nat} {z:RB} {r:SRep} {be m:Nat} (h:RepF w o rho b z r be m) (f:Fix P o o' w w') (a:P 0) (c:∀ p,P (tg r.id p)):RepF w' o' rho b z r be m:=
 ⟨h.num,fun p=>RepP.fix f a p (c p) (h.part p)⟩
theorem RepF.keep {o:Tags} {w w':World} {rho:Nat→Rq} {b:Nat} {z:RB} {r:SRep} {be m:Nat} (h:RepF w o rho b z r be m) (a:Below w.heap.size w w'):RepF w' o rho b z r be m:=
 h.fix (P:=fun _=>True) (Fix.same a) trivial (fun _=>trivial)
theorem RepF.keepT {o o':Tags} {w w':World} {rho:Nat→Rq} {b:Nat} {z:RB} {r:SRep} {be m:Nat} (h:RepF w o rho b z r be m) (a:Below w.heap.size w w') (c:∀ x,x<w.heap.size→o' x=o x):RepF w' o' rho b z r be m:=
 h.fix (P:=fun _=>True) (Fix.below a c) trivial (fun _=>trivial)
theorem Num.le {r:SRep} {m m':Nat} (h:Num r m) (a:m'≤m):Num r m':=⟨h.id,h.e,h.v,h.d,h.votes,h.nodup,h.chs,h.chn,h.nx1,h.nx9,h.fails,h.tend,h.wait,by have:=h.says;omega,by have:=h.o;omega,by have:=h.hist;omega,h.sok,h.left,h.now⟩
theorem RepF.le {o:Tags} {w:World} {rho:Nat→Rq} {b:Nat} {z:RB} {r:SRep} {be m m':Nat} (h:RepF w o rho b z r be m) (a:m'≤m):RepF w o rho b z r be m':=⟨h.num.le a,h.part⟩
theorem RepF.upd (S:List Nat) {o o':Tags} {w w':World} {rho:Nat→Rq} {b:Nat} {z z':RB} {r r':SRep} {be be' m m':Nat} (h:RepF w o rho b z r be m) (f:Fix (fun t=>∀ p∈S,t≠tg r.id p) o o' w w') (num:Num r' m')
  (same:∀ p,p∉S→RepP rho b z r be p=RepP rho b z' r' be' p) (new:∀ p∈S,RepP rho b z' r' be' p w' o'):RepF w' o' rho b z' r' be' m':=by
 refine⟨num,fun p=>?_⟩;by_cases hp:p∈S
 ·exact new p hp
 ·rw[←same p hp];exact RepP.fix f (fun q _=>by unfold tg;omega) p (fun q a=>by unfold tg;intro e;exact hp ((show p=q by omega) ▸ a)) (h.part p)
theorem RepF.upd1 (k:Nat) {o o':Tags} {w w':World} {rho:Nat→Rq} {b:Nat} {z z':RB} {r r':SRep} {be be' m m':Nat} (h:RepF w o rho b z r be m) (c:Chg (tg r.id k) o o' w w') (num:Num r' m')
  (same:∀ p,p∉[k]→RepP rho b z r be p=RepP rho b z' r' be' p) (new:RepP rho b z' r' be' k w' o'):RepF w' o' rho b z' r' be' m':=
 h.upd [k] ((c.fix (P:=fun t=>∀ p∈[k],t≠tg r.id p) (by simp))) num same (fun p a=>by rw[List.mem_singleton] at a;subst a;exact new)
theorem hBk {o o':Tags} {w w':World} {i k:Nat} {S:List Nat} (c:Chg (tg i k) o o' w w') (a:k∈S):Fix (fun t=>∀ p∈S,t≠tg i p) o o' w w':=c.fix fun h=>h k a rfl
theorem hY7 {o:Tags} {w w':World} (h:Below w.heap.size w w') (P:Nat→Prop):Fix P o o w w':=Fix.same h
theorem RepF.blk {o:Tags} {w:World} {rho:Nat→Rq} {b:Nat} {z:RB} {r:SRep} {be m:Nat} (h:RepF w o rho b z r be m):Blk w o (tg r.id 1) b 125 (repC rho z r):=h.part 1
theorem RepF.term {o:Tags} {w:World} {rho:Nat→Rq} {b:Nat} {z:RB} {r:SRep} {be m:Nat} (h:RepF w o rho b z r be m):Blk w o (tg r.id 2) z.tb 188 (termC z r):=h.part 2
theorem RepF.cell {o:Tags} {w:World} {rho:Nat→Rq} {b:Nat} {z:RB} {r:SRep} {be m:Nat} (h:RepF w o rho b z r be m) (k:Nat) {v:Value} (a:(repC rho z r)[k]?=some v):w.cell? ⟨b,k,none⟩=some v:=(zR w b k _ _ _ h.blk.1).trans a
theorem RepF.fz {o:Tags} {w:World} {rho:Nat→Rq} {b:Nat} {z:RB} {r:SRep} {be m:Nat} (h:RepF w o rho b z r be m) (k:Nat):w.frozen? ⟨b,k,none⟩=false:=frozen_of_row w b k _ _ h.blk.1
theorem RepF.tcell {o:Tags} {w:World} {rho:Nat→Rq} {b:Nat} {z:RB} {r:SRep} {be m:Nat} (h:RepF w o rho b z r be m) (k:Nat) {v:Value} (a:(termC z r)[k]?=some v):w.cell? ⟨z.tb,k,none⟩=some v:=(zR w z.tb k _ _ _ h.term.1).trans a
theorem RepF.tfz {o:Tags} {w:World} {rho:Nat→Rq} {b:Nat} {z:RB} {r:SRep} {be m:Nat} (h:RepF w o rho b z r be m) (k:Nat):w.frozen? ⟨z.tb,k,none⟩=false:=frozen_of_row w z.tb k _ _ h.term.1
theorem RepF.lt {o:Tags} {w:World} {rho:Nat→Rq} {b:Nat} {z:RB} {r:SRep} {be m:Nat} (h:RepF w o rho b z r be m):b<w.heap.size:=h.blk.lt
theorem RepF.tlt {o:Tags} {w:World} {rho:Nat→Rq} {b:Nat} {z:RB} {r:SRep} {be m:Nat} (h:RepF w o rho b z r be m):z.tb<w.heap.size:=h.term.lt
theorem RepF.c0 {o:Tags} {w:World} {rho:Nat→Rq} {b:Nat} {z:RB} {r:SRep} {be m:Nat} (h:RepF w o rho b z r be m):w.cell? ⟨b,0,none⟩=some (.pointer (some ⟨z.tb,0,none⟩)):=h.cell 0 rfl
theorem RepF.c1 {o:Tags} {w:World} {rho:Nat→Rq} {b:Nat} {z:RB} {r:SRep} {be m:Nat} (h:RepF w o rho b z r be m):w.cell? ⟨b,1,none⟩=some (.int .i64 r.id):=h.cell 1 rfl
theorem RepF.c2 {o:Tags} {w:World} {rho:Nat→Rq} {b:Nat} {z:RB} {r:SRep} {be m:Nat} (h:RepF w o rho b z r be m):w.cell? ⟨b,2,none⟩=some (.pointer (some ⟨z.bk,0,none⟩)):=h.cell 2 rfl
theorem RepF.c3 {o:Tags} {w:World} {rho:Nat→Rq} {b:Nat} {z:RB} {r:SRep} {be m:Nat} (h:RepF w o rho b z r be m):w.cell? ⟨b,3,none⟩=some (.pointer (some ⟨z.ch,0,none⟩)):=h.cell 3 rfl
theorem RepF.c4 {o:Tags} {w:World} {rho:Nat→Rq} {b:Nat} {z:RB} {r:SRep} {be m:Nat} (h:RepF w o rho b z r be m):w.cell? ⟨b,4,none⟩=some (.pointer (some ⟨z.tm,0,none⟩)):=h.cell 4 rfl
theorem RepF.c77 {o:Tags} {w:World} {rho:Nat→Rq} {b:Nat} {z:RB} {r:SRep} {be m:Nat} (h:RepF w o rho b z r be m):w.cell? ⟨b,77,none⟩=some (.slice z.S r.says.length z.sc):=h.cell 77 rfl
theorem RepF.c80 {o:Tags} {w:World} {rho:Nat→Rq} {b:Nat} {z:RB} {r:SRep} {be m:Nat} (h:RepF w o rho b z r be m):w.cell? ⟨b,80,none⟩=some (.int .i64 (if (r.settled.getD []).length=0 then 0 else((0:Nat):Int)+1)):=h.cell 80 rfl
theorem RepF.c83 {o:Tags} {w:World} {rho:Nat→Rq} {b:Nat} {z:RB} {r:SRep} {be m:Nat} (h:RepF w o rho b z r be m):w.cell? ⟨b,83,none⟩=some (.int .i64 r.left):=h.cell 83 rfl
theorem RepF.c84 {o:Tags} {w:World} {rho:Nat→Rq} {b:Nat} {z:RB} {r:SRep} {be m:Nat} (h:RepF w o rho b z r be m):w.cell? ⟨b,84,none⟩=some (.bool false):=h.cell 84 rfl
theorem RepF.c85 {o:Tags} {w:World} {rho:Nat→Rq} {b:Nat} {z:RB} {r:SRep} {be m:Nat} (h:RepF w o rho b z r be m):w.cell? ⟨b,85,none⟩=some (.slice z.H r.hist z.hc):=h.cell 85 rfl
theorem RepF.c86 {o:Tags} {w:World} {rho:Nat→Rq} {b:Nat} {z:RB} {r:SRep} {be m:Nat} (h:RepF w o rho b z r be m):w.cell? ⟨b,86,none⟩=some (.slice z.O r.o.length z.oc):=h.cell 86 rfl
theorem RepF.c87 {o:Tags} {w:World} {rho:Nat→Rq} {b:Nat} {z:RB} {r:SRep} {be m:Nat} (h:RepF w o rho b z r be m):w.cell? ⟨b,87,none⟩=some (.int .i64 r.now):=h.cell 87 rfl
theorem RepF.t0 {o:Tags} {w:World} {rho:Nat→Rq} {b:Nat} {z:RB} {r:SRep} {be m:Nat} (h:RepF w o rho b z r be m):w.cell? ⟨z.tb,0,none⟩=some (.pointer (some ⟨z.lb,0,none⟩)):=h.tcell 0 rfl
theorem RepF.t1 {o:Tags} {w:World} {rho:Nat→Rq} {b:Nat} {z:RB} {r:SRep} {be m:Nat} (h:RepF w o rho b z r be m):w.cell? ⟨z.tb,1,none⟩=some (.pointer (some ⟨z.tl,0,none⟩)):=h.tcell 1 rfl
theorem RepF.t2 {o:Tags} {w:World} {rho:Nat→Rq} {b:Nat} {z:RB} {r:SRep} {be m:Nat} (h:RepF w o rho b z r be m):w.cell? ⟨z.tb,2,none⟩=some (.map (some z.mb)):=h.tcell 2 rfl
theorem RepF.t3 {o:Tags} {w:World} {rho:Nat→Rq} {b:Nat} {z:RB} {r:SRep} {be m:Nat} (h:RepF w o rho b z r be m):w.cell? ⟨z.tb,3,none⟩=some (.int .i64 r.log.e):=h.tcell 3 rfl
theorem RepF.t4 {o:Tags} {w:World} {rho:Nat→Rq} {b:Nat} {z:RB} {r:SRep} {be m:Nat} (h:RepF w o rho b z r be m):w.cell? ⟨z.tb,4,none⟩=some (.slice z.M 4 z.mc):=h.tcell 4 rfl
theorem RepF.t5 {o:Tags} {w:World} {rho:Nat→Rq} {b:Nat} {z:RB} {r:SRep} {be m:Nat} (h:RepF w o rho b z r be m):w.cell? ⟨z.tb,5,none⟩=some (.bool r.active):=h.tcell 5 rfl
theorem RepF.t6 {o:Tags} {w:World} {rho:Nat→Rq} {b:Nat} {z:RB} {r:SRep} {be m:Nat} (h:RepF w o rho b z r be m):w.cell? ⟨z.tb,6,none⟩=some (.bool r.voted):=h.tcell 6 rfl
theorem RepF.t7 {o:Tags} {w:World} {rho:Nat→Rq} {b:Nat} {z:RB} {r:SRep} {be m:Nat} (h:RepF w o rho b z r be m):w.cell? ⟨z.tb,7,none⟩=some (.int .i64 r.next):=h.tcell 7 rfl
theorem RepF.set {o:Tags} {w:World} {rho:Nat→Rq} {b:Nat} {z z':RB} {r r':SRep} {be m m':Nat} (h:RepF w o rho b z r be m) (k:Nat) (v:Value) (hc:(repC rho z r).setIfInBounds k v=repC rho z' r') (c:r'.id=r.id) (num:Num r' m')
  (same:∀ p,p∉[1]→RepP rho b z r be p=RepP rho b z' r' be p):RepF (w.setCell ⟨b,k,none⟩ v) o rho b z' r' be m'∧ChgR (r.id+1) o o w (w.setCell ⟨b,k,none⟩ v):=by
 obtain⟨d,e,a⟩:=h.blk.set k v;refine⟨h.upd1 1 a num same ?_,a.r (by decide)⟩;show Blk _ _ (tg r'.id 1) _ _ _;rw[c,←hc];exact d
theorem RepF.setT {o:Tags} {w:World} {rho:Nat→Rq} {b:Nat} {z z':RB} {r r':SRep} {be m m':Nat} (h:RepF w o rho b z r be m) (k:Nat) (v:Value) (hc:(termC z r).setIfInBounds k v=termC z' r') (d:r'.id=r.id) (i:z'.tb=z.tb) (num:Num r' m')
  (same:∀ p,p∉[2]→RepP rho b z r be p=RepP rho b z' r' be p):RepF (w.setCell ⟨z.tb,k,none⟩ v) o rho b z' r' be m'∧ChgR (r.id+1) o o w (w.setCell ⟨z.tb,k,none⟩ v):=by
 obtain⟨f,g,a⟩:=h.term.set k v;refine⟨h.upd1 2 a num same ?_,a.r2 (fun x c hc=>?_)⟩
 rotate_left
 ·by_cases hx:x=z.tb
  ·subst hx;exact⟨_,heap_setCell_same w z.tb k _ _ _ hc⟩
  ·exact⟨c,(g.block x (zL hc) (fun e=>hx (Option.some.inj e))).trans hc⟩
 show Blk _ _ (tg r'.id 2) _ _ _;rw[d,←hc,i];exact f
structure CB where
 ch:Nat
 mp:Option Nat
 A:Option Addr
 ac:Nat
 R:Option Addr
 rc:Nat
def SCli.cop (c:SCli):Nat:=if c.open_ then c.stamp else 0
noncomputable def cliC (rho:Nat→Rq) (z:CB) (c:SCli):Array Value:=
 #[.int .i64 1,.pointer (some ⟨z.ch,0,none⟩),.int .i64 c.stamp,.int .i64 ((wcl c.cop:Nat):Int),.int .i64 ((wrq rho c.cop).st:Int),.int .i64 ((wrq rho c.cop).kind:Int),.string (wrq rho c.cop).key,.float .f64 (wrq rho c.cop).real,.int .i64 0,.map z.mp,.slice z.A c.acc z.ac,.slice z.R c.acc z.rc]
noncomputable def cameL (rho:Nat→Rq) (n:Nat) (l:List (Nat×Nat)):List KV:=l.map fun p=>(.agg #[.int .i64 p.1,.int .i64 p.2],.agg #[.string (resT (hist rho n).2.1 (hist rho n).2.2)])
noncomputable def resL (rho:Nat→Rq):Nat→List Value
 |0=>[]
 |n+1=>resL rho n++[.int .i64 ((hist rho (n+1)).2.1:Int),.float .f64 (hist rho (n+1)).2.2]
structure CliAt (w:World) (o:Tags) (rho:Nat→Rq) (b:Nat) (z:CB) (c:SCli):Prop where
 blk:Blk w o (tg 4 1) b 99 (cliC rho z c)
 ch:TrAt w o (tg 4 3) z.ch (chainL c.chain)
 came:c.open_=true→∃ mb,z.mp=some mb∧MpK 316 w mb (cameL rho c.stamp c.came)∧o mb=tg 4 5
 acc:∃ xs,Row w o (tg 4 6) 95 7 (.slice z.A c.acc z.ac) c.acc xs∧∀ u∈xs,u.oneCell'=true
 res:Row w o (tg 4 8) 43 2 (.slice z.R c.acc z.rc) c.acc (resL rho c.acc)
theorem CliAt.fix {P:Nat→Prop} {o o':Tags} {w w':World} {rho:Nat→Rq} {b:Nat} {z:CB} {c:SCli} (h:CliAt w o rho b z c) (f:Fix P o o' w w') (i:P 0) (a:∀ p,P (tg 4 p)):CliAt w' o' rho b z c:=by
 obtain⟨xs,l,e⟩:=h.acc;refine⟨h.blk.fix f (a 1),h.ch.fix f (a 3) i,fun g=>?_,⟨xs,l.fix f (a 6),e⟩,h.res.fix f (a 8)⟩;obtain⟨mb,j,k,d⟩:=h.came g;obtain⟨k1,k2⟩:=k.fixT f (by rw[d];exact a 5);exact⟨mb,j,k1,k2.trans d⟩
theorem CliAt.keep {o:Tags} {w w':World} {rho:Nat→Rq} {b:Nat} {z:CB} {c:SCli} (h:CliAt w o rho b z c) (a:Below w.heap.size w w'):CliAt w' o rho b z c:=
 h.fix (P:=fun _=>True) (Fix.same a) trivial (fun _=>trivial)
theorem CliAt.keepT {o o':Tags} {w w':World} {rho:Nat→Rq} {b:Nat} {z:CB} {c:SCli} (h:CliAt w o rho b z c) (a:Below w.heap.size w w') (d:∀ x,x<w.heap.size→o' x=o x):CliAt w' o' rho b z c:=
 h.fix (P:=fun _=>True) (Fix.below a d) trivial (fun _=>trivial)
theorem CliAt.lt {o:Tags} {w:World} {rho:Nat→Rq} {b:Nat} {z:CB} {c:SCli} (h:CliAt w o rho b z c):b<w.heap.size:=h.blk.lt
theorem CliAt.cell {o:Tags} {w:World} {rho:Nat→Rq} {b:Nat} {z:CB} {c:SCli} (h:CliAt w o rho b z c) (k:Nat) {v:Value} (a:(cliC rho z c)[k]?=some v):w.cell? ⟨b,k,none⟩=some v:=(zR w b k _ _ _ h.blk.1).trans a
theorem CliAt.fz {o:Tags} {w:World} {rho:Nat→Rq} {b:Nat} {z:CB} {c:SCli} (h:CliAt w o rho b z c) (k:Nat):w.frozen? ⟨b,k,none⟩=false:=frozen_of_row w b k _ _ h.blk.1
theorem hHs {o:Tags} {rho:Nat→Rq} {b:Nat} {z:CB} {c:SCli} (w:World) (h:CliAt w o rho b z c) :
  Calls Tryz.prog 111 #[.pointer (some ⟨b,0,none⟩)] w fun e w'=>e=.returned (.int .i64 101)∧w=w':=by
 have x0:w.cell? ⟨b,0,none⟩=some (.int .i64 1):=h.cell 0 rfl;clear h;go_enter Tryz.func111,Tryz.ntmps111;go_wp2_with fail;go_ret;exact⟨rfl,rfl⟩
theorem hCm {o:Tags} {rho:Nat→Rq} {b:Nat} {z:CB} {c:SCli} (a:c.open_=true→1≤c.stamp) (w:World) (h:CliAt w o rho b z c) :
  Calls Tryz.prog 83 #[.pointer (some ⟨b,0,none⟩)] w fun e w'=>e=.returned (.bool c.open_)∧w=w':=by
 have x3:w.cell? ⟨b,3,none⟩=some (.int .i64 ((wcl c.cop:Nat):Int)):=h.cell 3 rfl;have hc:((wcl c.cop:Nat):Int)=if c.open_ then 1 else 0:=by
  unfold SCli.cop wcl;cases ho:c.open_
  ·simp
  ·have:=a ho;rw[if_pos rfl,if_neg (by omega),if_pos rfl];rfl
 rw[hc] at x3;clear h a hc;cases ho:c.open_
 ·rw[ho] at x3;go_enter Tryz.func83,Tryz.ntmps83;go_wp2_with fail;go_ret;exact⟨rfl,rfl⟩
 ·rw[ho] at x3;go_enter Tryz.func83,Tryz.ntmps83;go_wp2_with fail;go_ret;exact⟨rfl,rfl⟩
theorem hRu {P:Program} {ops:Array Oper} {Q:Exit→Act→World→Prop} {md:Region.Mode} {S:World→Prop} {fuel:Nat} {listed:Array Bool} {a:Act} {w:World}
  (i6 i7 i8 d6 d7 d8:Nat) {o6 o7 o8:Oper} (J:ops[i6]?=some o6) (L:ops[i7]?=some o7) (M:ops[i8]?=some o8)
  (r0:Region.ready md ops listed=[i6]) (r1:Region.ready md ops (listed.setIfInBounds i6 true)=[i7]) (r2:Region.ready md ops ((listed.setIfInBounds i6 true).setIfInBounds i7 true)=[i8])
  (r3:Region.ready md ops (((listed.setIfInBounds i6 true).setIfInBounds i7 true).setIfInBounds i8 true)=[])
  (g6:o6.guard=none) (g7:o7.guard=none) (g8:o8.guard=none) (e6:o6.dst=some d6) (e7:o7.dst=some d7) (e8:o8.dst=some d8)
  (t e:TypeId) (x6 xs7:Operand) (p6:o6.op=.buildSlice t 1 #[(0,x6)]) (p7:o7.op=.call { callee:=.builtin .append,args:=#[xs7,.tmp d6],argTypes:=#[t,t] }) (p8:o8.op=.assign (.tmp d7))
  (base:Nat) (ie:TypeInfo) (z:Value) (k bytes:Nat) (F:P.underlying t=some (.slice e)) (o:P.info? e=some ie) (H:ie.zero=some z) (D:ie.size=k) (B:ie.bytes=bytes) (q:z.cells.size=k) (m:0<k) (E:k≤2 ^ 24)
  (v:Value) (n:Nat) (xs:List Value) (x:w.ownsRow base e k v n xs) (f:base≤w.heap.size)
  (u:Array Value) (p:u.size=k) (G:∀ v∈u.toList,v.oneCell'=true)
  (v7:∀ a':Act,a'.tmps=a.tmps.setIfInBounds d6 (.slice (some ⟨w.heap.size,0,none⟩) 1 1)→a'.eval xs7=v) (v6:a.eval x6=.agg u)
  (z6:d6<a.tmps.size) (z7:d7<a.tmps.size)
  (A:n+1≤maxLen) (l:(n+1)*bytes≤140737488355328)
  (r:∀ W,Below base w W→S W)
  (h:∀ v' W,W.ownsRow base e k v' (n+1) (xs++u.toList)→Below base w W→(∀ b,b<w.heap.size→v.ownBlock≠some b→W.heap[b]?=w.heap[b]?) →
   Q .normal { a with tmps:=((a.tmps.setIfInBounds d6 (.slice (some ⟨w.heap.size,0,none⟩) 1 1)).setIfInBounds d7 v').setIfInBounds d8 v' } W) :
  wpAnyH P md ops Q S (fuel+3) listed a w:=by
 have d:=(Below.refl w.heap.size w).alloc (Nat.le_refl _) (.cells u e);have g:(w.alloc (.cells u e)).ownsRow base e k v n xs:=x.alloc (.cells u e);refine wpAnyH_ready (rs:=[i6]) r0 (by simp) (AllReadyH.cons J (fun K i=>?_) AllReadyH.nil);rw[if_pos (Region.wanted_plain g6 _)];unfold Oper.wp execOp;simp only[p6,List.map_toArray,List.map_cons,List.map_nil,v6,Sem.run_bind,hDx t e u ie z k F o H D p q m E,Result.andThen_ok,Sem.run_pure,Oper.upon_value];rw[e6];refine i.out _ _ (r _ (d.mono f)) (fun _=>?_);refine wpAnyH_ready (rs:=[i7]) r1 (by simp) (AllReadyH.cons L (fun K i=>?_) AllReadyH.nil);rw[if_pos (Region.wanted_plain g7 _)];obtain⟨v',w',N,y,c,_⟩:=run_append_own (P:=P) (w:=w.alloc (.cells u e)) base t o7.type e ie z k bytes F o H D B q m v n xs g ⟨w.heap.size,0,none⟩ 1 1 u.toList (by simp[p]) (World.news_of_block (cs:=u) (t:=e) (fr:=(0,0)) (heap_alloc_new w _)) G A l (by simp;omega);unfold Oper.wp execOp;have e1:(Act.put a (some d6) (.slice (some ⟨w.heap.size,0,none⟩) 1 1)).eval xs7=v:=v7 _ rfl;have e2:(Act.put a (some d6) (.slice (some ⟨w.heap.size,0,none⟩) 1 1)).eval (.tmp d6)=.slice (some ⟨w.heap.size,0,none⟩) 1 1:=by
  simp[Act.put,Act.eval,Array.getD_eq_getD_getElem?,Array.getElem?_setIfInBounds,z6]
 simp only[p7,resolve,invoke,builtin,Sem.run_bind,Sem.run_pure,Result.andThen_ok,List.map_toArray,List.map_cons,List.map_nil,e1,e2,N,Oper.upon_value];have j:Below base w w':=by
  have I:Below base (w.alloc (.cells u e)) w':=⟨c.os,c.tape,c.output,c.size,fun b s=>c.block b (by simp;omega) (fun e=>by have:=(World.ownsRow.lt g b e.symm).1;omega)⟩;exact(d.mono f).trans I
 rw[e7];refine i.out _ _ (r _ j) (fun _=>?_);refine wpAnyH_ready (rs:=[i8]) r2 (by simp) (AllReadyH.cons M (fun K i=>?_) AllReadyH.nil);rw[if_pos (Region.wanted_plain g8 _)];unfold Oper.wp execOp;have e3:(Act.put (Act.put a (some d6) (.slice (some ⟨w.heap.size,0,none⟩) 1 1)) (some d7) v').eval (.tmp d7)=v':=by
  simp[Act.put,Act.eval,Array.getD_eq_getD_getElem?,Array.getElem?_setIfInBounds,z7]
 simp only[p8,e3,Sem.run_bind,Sem.run_pure,Result.andThen_ok,Oper.upon_value];rw[e8];refine i.out _ _ (r _ j) (fun _=>wpAnyH_done r3 ?_ _);exact h v' w' y j (fun b s C=>(c.block b (Nat.lt_of_lt_of_le s d.size) (fun e=>C e.symm)).trans (d.block b s))
theorem RepF.mem {o:Tags} {w:World} {rho:Nat→Rq} {b:Nat} {z:RB} {r:SRep} {be m:Nat} (h:RepF w o rho b z r be m):MemD w o z.M z.mc:=h.part 13
theorem hDe {o:Tags} {rho:Nat→Rq} {b:Nat} {z:RB} {r:SRep} {be m:Nat} (w:World) (h:RepF w o rho b z r be m) :
  Calls Tryz.prog 214 #[.pointer (some ⟨b,0,none⟩)] w fun e w'=>e=.returned (.bool true)∧Below w.heap.size w w':=by
 have n:=h.num.id;have c:decide ((0:Int)≤(r.id:Int)∧(r.id:Int)<4)=true:=decide_eq_true ⟨by omega,by omega⟩;have a:=fun y:Bel w.heap.size w=>zH (has4 r.id r.log.e z.M z.mc y.w (h.mem.1.keep y.h));rw[c] at a;have x0:=fun y:Bel w.heap.size w=>y.cell h.lt (h.c0);have x1:=fun y:Bel w.heap.size w=>y.cell h.lt (h.c1);have y3:=fun y:Bel w.heap.size w=>y.cell h.tlt (h.t3);have y4:=fun y:Bel w.heap.size w=>y.cell h.tlt (h.t4);clear h c n;go_enter Tryz.func214,Tryz.ntmps214;go_wp2_with fail;refine hAg w.heap.size w (by kernel_rfl) (by kernel_rfl) (Below.refl _ _) ?_;repeat (go_big_quiet_step ((go_at_call 198;exact hAq (Nat.le_refl _) (a _).o)))
 refine wpQuiet_nil ?_;rintro _ ⟨y,rfl⟩;go_wp2_with fail;go_ret;exact⟨rfl,y.h⟩
theorem hCn {o:Tags} {rho:Nat→Rq} {b:Nat} {z:RB} {r:SRep} {be m:Nat} (v:Nat) (a:v≤1000) (w:World) (h:RepF w o rho b z r be m) :
  Calls Tryz.prog 245 #[.pointer (some ⟨b,0,none⟩),.int .i64 v] w fun e w'=>e=.returned (.int .i64 ((v % 4:Nat):Int))∧Below w.heap.size w w':=by
 have c:=zH (primary4 v r.log.e (by have:=h.num.e;omega) z.M z.mc w h.mem.1 a);have x0:=h.c0;have y3:=h.t3;have y4:=h.t4;clear h a;go_enter Tryz.func245,Tryz.ntmps245;go_wp2_with fail;refine c.o.mono ?_;rintro e w1 ⟨rfl,d⟩;go_wp2_with fail;go_ret;exact⟨rfl,d⟩
theorem hJb {o:Tags} {rho:Nat→Rq} {b:Nat} {z:RB} {r:SRep} {be m:Nat} (w:World) (h:RepF w o rho b z r be m) :
  Calls Tryz.prog 74 #[.pointer (some ⟨z.tb,0,none⟩)] w fun e w'=>e=.returned (.int .i64 ((4*r.log.e+1:Nat):Int))∧w=w':=by
 have n:=h.num.e;have n1:(0:Int)≤(r.log.e:Int):=by omega
 have n2:(r.log.e:Int)≤1:=by omega
 have y3:=h.t3;clear h;go_enter Tryz.func74,Tryz.ntmps74;go_wp2_with fail;go_ret;exact⟨hPv (by omega),rfl⟩
theorem hPf {o:Tags} {rho:Nat→Rq} {b:Nat} {z:RB} {r:SRep} {be m:Nat} (w:World) (h:RepF w o rho b z r be m) :
  Calls Tryz.prog 267 #[.pointer (some ⟨z.tb,0,none⟩)] w fun e w'=>e=.returned (.int .i64 3)∧w=w':=by
 have y4:=h.t4;have a:=fun w=>zH (quorum4 w);clear h;go_enter Tryz.func267,Tryz.ntmps267;go_wp2_with fail;refine(a w).o.mono ?_;rintro e w1 ⟨rfl,rfl⟩;go_wp2_with fail;go_ret;exact⟨rfl,rfl⟩
theorem hNl {fn:Func} {p q:Tmp} (h:fn.results=#[.cell p 114,.tmp q]) (tmps:Array Value) (w:World) (g:Nat) (cs:Array Value) (e:cs.size=2)
  (d:tmps.getD p undef=.pointer (some ⟨g,0,none⟩)) (b:w.heap[g]?=some (.cells cs 114 (0,0))) :
  (results fn tmps).run Tryz.prog w=.ok (.tuple #[.agg cs,tmps.getD q undef]) w:=by
 have a:tmps[p]?.getD undef=.pointer (some ⟨g,0,none⟩):=by simpa using d
 have c:=run_loadVar_row (P:=Tryz.prog) w g 114 114 cs (0,0) _ b Tryz.underlying114 rfl (by rw[e];kernel_rfl);simp[results,h,a,asAddr,c]
theorem RepF.loc {o:Tags} {w w':World} {rho:Nat→Rq} {b:Nat} {z:RB} {r:SRep} {be m g:Nat} (h:RepF w o rho b z r be m) (a:w.grownBy w' (some g)) (c:o g=7):RepF w' o rho b z r be m:=
 h.fix (P:=fun t=>t≠7) ⟨a.size,fun x f d=>⟨rfl,a.block x f (fun e=>d (by rw[Option.some.inj e];exact c))⟩⟩ (by decide) (fun p=>by unfold tg;omega)
theorem ChgR.loc {o o':Tags} {w w1 w2:World} {k g:Nat} (h:ChgR k o o' w w1) (a:w1.grownBy w2 (some g)) (j:w.heap.size≤g):ChgR k o o' w w2:=
 ⟨a.os.trans h.os,a.tape.trans h.tape,a.output.trans h.output,Nat.le_trans h.size a.size,h.tags,fun b d f=>(a.block b (Nat.lt_of_lt_of_le d h.size) (fun e=>by have:=Option.some.inj e;omega)).trans (h.block b d f),fun b d f c hc=>by
  obtain⟨c1,i⟩:=h.term b d f c hc;exact⟨c1,(a.block b (Nat.lt_of_lt_of_le d h.size) (fun e=>by have:=Option.some.inj e;omega)).trans i⟩⟩
theorem hH9 {o:Tags} {rho:Nat→Rq} {b:Nat} {z:RB} {r:SRep} {be m:Nat} (t:ByteArray) (v:r.left≠0) (w:World) (h:RepF w o rho b z r be m) :
  Calls Tryz.prog 237 #[.pointer (some ⟨b,0,none⟩),.string t] w fun e w'=>e=.returned (.tuple #[.agg #[.int .i64 r.id,.string t],.bool true])∧∃ o',RepF w' o' rho b z { r with left:=r.left - 1 } be m∧ChgR (r.id+1) o o' w w':=by
 have c:=zH ((Below.refl w.heap.size w).alloc (Nat.le_refl _) (.cells #[.int .i64 0,.string ⟨#[]⟩] 114));have i:=zH (heap_alloc_new w (.cells #[.int .i64 0,.string ⟨#[]⟩] 114));have a:=zH (h.keepT c.o (Tags.ext_old o w.heap.size 7));have d:=Tags.ext_new o w.heap.size 7 w.heap.size (Nat.le_refl _);have f:=Tags.ext_old o w.heap.size 7;have j:=zH h.lt;have n0:(r.left:Int)≠0:=by omega
 have n1:(0:Int)≤(r.left:Int):=by omega
 have n2:(r.left:Int)≤64:=by have:=h.num.left;omega
 have x83:=a.o.c83;have x84:=a.o.c84;have x1:=a.o.c1;have f83:=a.o.fz 83;clear h;go_enter Tryz.func237,Tryz.ntmps237;go_wp2_with fail;obtain⟨g,l⟩:=zN (w.heap.size);rw[←l] at i c j a d f ⊢;generalize o.ext g 7=o1 at a d f ⊢;generalize w.alloc _=w1 at c i a ⊢;clear x83 x84 x1 f83;have k:=a.o.set 83 (.int .i64 ((r.left:Int) - 1)) (z':=z) (r':={ r with left:=r.left - 1 }) (by
  have:((r.left - 1:Nat):Int)=(r.left:Int) - 1:=by omega
  unfold repC;rw[this];rfl) rfl { a.o.num with left:=by have:=a.o.num.left;show r.left - 1≤64;omega } (fun p u=>by rcases p with _|_|_|_|_|_|_|_|_|_|_|_|_|_|p<;>first | exact absurd (by decide) u | rfl)
 generalize s:w1.setCell ⟨b,83,none⟩ _=w2 at k ⊢;have q:w2.heap[g]?=some (.cells #[.int .i64 0,.string ⟨#[]⟩] 114 (0,0)):=by
  rw[←s];exact((hAb (hAa (Below.refl _ _) _) (p:=⟨b,83,none⟩) (.inl rfl) _:w1.grownBy (w1.setCell ⟨b,83,none⟩ (.int .i64 ((r.left:Int) - 1))) (some b)).block g (zL i.o) (fun e=>by have:=Option.some.inj e;have:=j.o;simp at *;omega)).trans i.o
 obtain⟨u0,u1⟩:=hAz w2 g _ _ _ (.int .i64 r.id) (.string t) q;have n:ChgR (r.id+1) o o1 w w2:=(ChgR.below (by rw[l] at c;exact c.o) (by rw[←l];exact f)).trans k.2;exact bodyPost_ret (hNl rfl _ _ g _ rfl (by rfl) u0) rfl ⟨rfl,o1,k.1.loc u1 d,n.loc u1 (by omega)⟩
theorem gAa (C:Array Value) (h:C.size=17):(Tryz.prog.info? 48).map (·.size)=some C.size:=by
 rw[h]
 kernel_rfl
theorem hEw {W:World} {tb:Nat} {M:List Value} (h:W.heap[tb]?=some (.cells M.toArray 48 (0,0))):W.rangeAt tb 0 M:=fun j v a=>by
 rw[zR W tb (0+j) _ _ _ h,Nat.zero_add];simpa using a
theorem FM.one (m:FM) (z:Sls):∀ u∈(m.cells z).toList,u.oneCell'=true:=by
 intro u a;unfold FM.cells at a;simp at a;rcases a with rfl | rfl | rfl | rfl | rfl | rfl | rfl | rfl | rfl | rfl | rfl | rfl | rfl | rfl | rfl | rfl | rfl<;>rfl
theorem RepF.out' {o:Tags} {w:World} {rho:Nat→Rq} {b:Nat} {z:RB} {r:SRep} {be m:Nat} (h:RepF w o rho b z r be m):∃ xs,Row w o (tg r.id 11) 92 19 (.slice z.O r.o.length z.oc) r.o.length xs∧Lst (PkV w o) (r.o.map (pkF rho r.id)) xs:=h.part 11
theorem RepF.says' {o:Tags} {w:World} {rho:Nat→Rq} {b:Nat} {z:RB} {r:SRep} {be m:Nat} (h:RepF w o rho b z r be m):∃ xs,Row w o (tg r.id 9) 48 17 (.slice z.S r.says.length z.sc) r.says.length xs∧Lst (MsgV w o) (r.says.map (SMsg.fm rho)) xs:=h.part 9
theorem hX8 {o:Tags} {wa w5:World} {rho:Nat→Rq} {b:Nat} {z:RB} {r:SRep} {be m:Nat} (h:RepF wa o rho b z r be (m+1)) {ys u:List Value} {VA:Option Addr} {VC:Nat} {to:Nat} {x:SMsg}
  (n:Row wa o (tg r.id 11) 92 19 (.slice z.O r.o.length z.oc) r.o.length ys) (s:Lst (PkV wa o) (r.o.map (pkF rho r.id)) ys) (w:PkV wa o ((pkF rho r.id) (to,x)) u) (d:AppOut wa o (tg r.id 11) 92 19 (.slice z.O r.o.length z.oc) (.slice VA (r.o.length+1) VC) w5 (r.o.length+1) (ys++u)) :
  w5.heap[b]?=some (.cells (repC rho z r) 125 (0,0))∧RepF (w5.setCell ⟨b,86,none⟩ (.slice VA (r.o.length+1) VC)) (o.ext wa.heap.size (tg r.id 11)) rho b { z with O:=VA,oc:=VC } ({ r with o:=r.o++[(to,x)] }:SRep) be m∧ChgR (r.id+1) o (o.ext wa.heap.size (tg r.id 11)) wa (w5.setCell ⟨b,86,none⟩ (.slice VA (r.o.length+1) VC)):=by
 have g:=h.lt;have f:=(d.grown.block b g (fun e=>h.blk.ne n.1 (by decide) e.symm)).trans h.blk.1;have i:(o.ext wa.heap.size (tg r.id 11)) b=tg r.id 1:=(Tags.ext_old _ _ _ _ g).trans h.blk.2;obtain⟨s1,s2,s3⟩:=(show Blk w5 (o.ext wa.heap.size (tg r.id 11)) (tg r.id 1) b _ _ from⟨f,i⟩).set 86 (.slice VA (r.o.length+1) VC);have j:({ r with o:=r.o++[(to,x)] }:SRep).o.length=r.o.length+1:=by simp
 refine⟨f,h.upd [1,11] ((hBk d.chg (by decide)).trans (hBk s3 (by decide))) { h.num with says:=by have:=h.num.says;show r.says.length+m≤1000;omega,hist:=by have:=h.num.hist;show r.hist+m≤1000;omega,o:=by have:=h.num.o;simp;omega } (fun p t=>by rcases p with _|_|_|_|_|_|_|_|_|_|_|_|_|_|p<;>first | exact absurd (by decide) t | rfl) ?_,(d.chg.r (by decide)).trans (s3.r (by decide))⟩;intro q v;have l:Fix (· = 0) o (o.ext wa.heap.size (tg r.id 11)) wa (w5.setCell ⟨b,86,none⟩ (.slice VA (r.o.length+1) VC)):=(d.chg.fix (P:=(· = 0)) (by unfold tg;omega)).trans (s3.fix (P:=(· = 0)) (by unfold tg;omega));rcases(by simpa using v:q=1∨q=11) with rfl | rfl
 ·show Blk _ _ (tg r.id 1) b _ _;refine⟨s1.1.trans ?_,s1.2⟩;unfold repC;rw[j];rfl
 ·refine⟨ys++u,?_,?_⟩
  ·show Row _ _ (tg r.id 11) _ _ _ _ _;rw[j];exact⟨World.ownsRow.kept d.row.1 s2 (.inr (fun e=>by
    have k:=d.row.2 b e;rw[i] at k;unfold tg at k;omega)),d.row.2⟩
  ·show Lst _ (List.map _ (r.o++[(to,x)])) _;rw[List.map_append];exact Lst.app (s.imp fun a c hc=>hc.fix l rfl) (Lst.one (w.fix l rfl))
theorem hV9 {o:Tags} {wa w5:World} {rho:Nat→Rq} {b:Nat} {z:RB} {r:SRep} {be m:Nat} (h:RepF wa o rho b z r be (m+1)) {ys u:List Value} {VA:Option Addr} {VC:Nat} {x:SMsg} (B:x.ok=true)
  (s:Row wa o (tg r.id 9) 48 17 (.slice z.S r.says.length z.sc) r.says.length ys) (t:Lst (MsgV wa o) (r.says.map (SMsg.fm rho)) ys) (A:MsgV wa o ((SMsg.fm rho) x) u) (d:AppOut wa o (tg r.id 9) 48 17 (.slice z.S r.says.length z.sc) (.slice VA (r.says.length+1) VC) w5 (r.says.length+1) (ys++u)) :
  w5.heap[b]?=some (.cells (repC rho z r) 125 (0,0))∧RepF (w5.setCell ⟨b,77,none⟩ (.slice VA (r.says.length+1) VC)) (o.ext wa.heap.size (tg r.id 9)) rho b { z with S:=VA,sc:=VC } ({ r with says:=r.says++[x] }:SRep) be m∧ChgR (r.id+1) o (o.ext wa.heap.size (tg r.id 9)) wa (w5.setCell ⟨b,77,none⟩ (.slice VA (r.says.length+1) VC)):=by
 have i:=h.lt;have g:=(d.grown.block b i (fun e=>h.blk.ne s.1 (by decide) e.symm)).trans h.blk.1;have j:(o.ext wa.heap.size (tg r.id 9)) b=tg r.id 1:=(Tags.ext_old _ _ _ _ i).trans h.blk.2;obtain⟨s1,s2,s3⟩:=(show Blk w5 (o.ext wa.heap.size (tg r.id 9)) (tg r.id 1) b _ _ from⟨g,j⟩).set 77 (.slice VA (r.says.length+1) VC);have k:({ r with says:=r.says++[x] }:SRep).says.length=r.says.length+1:=by simp
 refine⟨g,h.upd [1,9] ((hBk d.chg (by decide)).trans (hBk s3 (by decide))) { h.num with says:=by have:=h.num.says;simp;omega,hist:=by have:=h.num.hist;show r.hist+m≤1000;omega,o:=by have:=h.num.o;show r.o.length+m≤3000;omega,sok:=fun y f=>by rcases List.mem_append.1 f with f | f;exact h.num.sok y f;rw[List.mem_singleton.1 f];exact B } (fun p v=>by rcases p with _|_|_|_|_|_|_|_|_|_|_|_|_|_|p<;>first | exact absurd (by decide) v | rfl) ?_,(d.chg.r (by decide)).trans (s3.r (by decide))⟩;intro q w;have n:Fix (· = 0) o (o.ext wa.heap.size (tg r.id 9)) wa (w5.setCell ⟨b,77,none⟩ (.slice VA (r.says.length+1) VC)):=(d.chg.fix (P:=(· = 0)) (by unfold tg;omega)).trans (s3.fix (P:=(· = 0)) (by unfold tg;omega));rcases(by simpa using w:q=1∨q=9) with rfl | rfl
 ·show Blk _ _ (tg r.id 1) b _ _;refine⟨s1.1.trans ?_,s1.2⟩;unfold repC;rw[k];rfl
 ·refine⟨ys++u,?_,?_⟩
  ·show Row _ _ (tg r.id 9) _ _ _ _ _;rw[k];exact⟨World.ownsRow.kept d.row.1 s2 (.inr (fun e=>by
    have l:=d.row.2 b e;rw[j] at l;unfold tg at l;omega)),d.row.2⟩
  ·show Lst _ (List.map _ (r.says++[x])) _;rw[List.map_append];exact Lst.app (t.imp fun a c hc=>hc.fix n rfl) (Lst.one (A.fix n rfl))
theorem hV6 {o:Tags} {wa w5:World} {rho:Nat→Rq} {b:Nat} {z:RB} {r:SRep} {be m:Nat} (h:RepF wa o rho b z r be (m+1)) {ys u:List Value} {VA:Option Addr} {VC:Nat}
  (i:Row wa o (tg r.id 10) 95 7 (.slice z.H r.hist z.hc) r.hist ys) (a:AppOut wa o (tg r.id 10) 95 7 (.slice z.H r.hist z.hc) (.slice VA (r.hist+1) VC) w5 (r.hist+1) (ys++u)) :
  w5.heap[b]?=some (.cells (repC rho z r) 125 (0,0))∧RepF (w5.setCell ⟨b,85,none⟩ (.slice VA (r.hist+1) VC)) (o.ext wa.heap.size (tg r.id 10)) rho b { z with H:=VA,hc:=VC } ({ r with hist:=r.hist+1 }:SRep) be m∧ChgR (r.id+1) o (o.ext wa.heap.size (tg r.id 10)) wa (w5.setCell ⟨b,85,none⟩ (.slice VA (r.hist+1) VC)):=by
 have d:=h.lt;have c:=(a.grown.block b d (fun e=>h.blk.ne i.1 (by decide) e.symm)).trans h.blk.1;have f:(o.ext wa.heap.size (tg r.id 10)) b=tg r.id 1:=(Tags.ext_old _ _ _ _ d).trans h.blk.2;obtain⟨s1,s2,s3⟩:=(show Blk w5 (o.ext wa.heap.size (tg r.id 10)) (tg r.id 1) b _ _ from⟨c,f⟩).set 85 (.slice VA (r.hist+1) VC);have l:({ r with hist:=r.hist+1 }:SRep).hist=r.hist+1:=rfl;refine⟨c,h.upd [1,10] ((hBk a.chg (by decide)).trans (hBk s3 (by decide))) { h.num with says:=by have:=h.num.says;show r.says.length+m≤1000;omega,o:=by have:=h.num.o;show r.o.length+m≤3000;omega,hist:=by have:=h.num.hist;show r.hist+1+m≤1000;omega } (fun p j=>by rcases p with _|_|_|_|_|_|_|_|_|_|_|_|_|_|p<;>first | exact absurd (by decide) j | rfl) ?_,(a.chg.r (by decide)).trans (s3.r (by decide))⟩;intro q k;rcases(by simpa using k:q=1∨q=10) with rfl | rfl
 ·show Blk _ _ (tg r.id 1) b _ _;refine⟨s1.1.trans ?_,s1.2⟩;rfl
 ·refine⟨ys++u,?_⟩
  ·show Row _ _ (tg r.id 10) _ _ _ _ _;exact⟨World.ownsRow.kept a.row.1 s2 (.inr (fun e=>by
    have g:=a.row.2 b e;rw[f] at g;unfold tg at g;omega)),a.row.2⟩
theorem hU3 (M:List Value) (b:M.length=17) (a c:Int) (w:World):(Instr.build 92 #[(0,.int .i64 a),(1,.int .i64 c),(2,.agg M.toArray)]).run Tryz.prog w=.ok (.agg (.int .i64 a::.int .i64 c::M).toArray) w:=by
 match M,b with
 |[x0,x1,x2,x3,x4,x5,x6,x7,x8,x9,x10,x11,x12,x13,x14,x15,x16],_=>exact run_build w _ _ _ (by kernel_rfl)
theorem hHq {ops:Array Oper} {S:World→Prop} {op:Oper} {a:Act} (e:Region.wanted op (yielded ops a.tmps)=true) (x y m:Operand) (d:op.op=.build 92 #[(0,x),(1,y),(2,m)])
  (M:List Value) (b:M.length=17) (p q:Int) (f:a.eval x=.int .i64 p) (g:a.eval y=.int .i64 q) (c:a.eval m=.agg M.toArray):YieldsIf Tryz.prog ops S op (.agg (.int .i64 p::.int .i64 q::M).toArray) a:=
 .inl ⟨e,fun w h=>by
  unfold execOp;simp only[d,List.map_toArray,List.map_cons,List.map_nil,f,g,c,Sem.run_bind,hU3 M b p q w,Result.andThen_ok,Sem.run_pure]⟩
theorem hKi {o:Tags} {rho:Nat→Rq} {b:Nat} {z:RB} {r:SRep} {be m:Nat} (to:Nat) (x:SMsg) (zz:Sls) (w:World) (h:RepF w o rho b z r be (m+1)) (ha:(x.fm rho).At w o zz) :
  Calls Tryz.prog 240 #[.pointer (some ⟨b,0,none⟩),.int .i64 to,.agg ((x.fm rho).cells zz)] w fun e w'=>e=.returned (.tuple #[])∧∃ o' z',RepF w' o' rho b z' { r with o:=r.o++[(to,x)] } be m∧ChgR (r.id+1) o o' w w'∧z'.tb=z.tb∧z'.lb=z.lb∧z'.S=z.S∧z'.sc=z.sc:=by
 obtain⟨i0,G,Y,Z,Ha⟩:=info_parts hD0;have Hh:=zH G;have Hi:=zH Y;have Hj:=zH Z;have Hk:=zH Ha;clear G Y Z Ha;have i:=zH ((Below.refl w.heap.size w).alloc (Nat.le_refl _) (.cells ((x.fm rho).cells zz) 48));have D:=zH (heap_alloc_new w (.cells ((x.fm rho).cells zz) 48));have q:=zH (h.keepT i.o (Tags.ext_old o w.heap.size 7));have H:=Tags.ext_new o w.heap.size 7 w.heap.size (Nat.le_refl _);have u:=Tags.ext_old o w.heap.size 7;have n:=zH (ChgR.below (k:=r.id+1) i.o u);have C:=zH (ha.fix (P:=fun _=>True) (Fix.below i.o u) trivial);have Hr:=h.lt;have Q:=zH (FM.one (x.fm rho) zz);obtain⟨M,F⟩:=zN (((x.fm rho).cells zz).toList);have y:zI (M.length=17):=zH (by rw[F];rfl);have T:(x.fm rho).cells zz=M.toArray:=by rw[F]
 rw[←F] at Q;have HM:=zH F;rw[T] at i D q C n ⊢;clear h ha F T;go_enter Tryz.func240,Tryz.ntmps240;go_wp2_with fail;obtain⟨g,hg⟩:=zN (w.heap.size);rw[←hg] at D i Hr q C H u n ⊢;generalize o.ext g 7=o1 at q C H u n ⊢;generalize w.alloc _=w1 at i D q C n ⊢;have Hx:=(zL D.o);obtain⟨ys,J,I⟩:=q.o.out';have t:Below w1.heap.size w1 w1.drew:=Below.drew (Below.refl _ _);have s:=zH (show Row w1.drew o1 (tg r.id 11) 92 19 (.slice z.O r.o.length z.oc) r.o.length ys from J);have R:=zH (hGx I (P:=fun _=>True) (Fix.same (o:=o1) t) trivial);have j:=zH (q.o.keep t);have L:=zH (C.o.fix (P:=fun _=>True) (Fix.same (o:=o1) t) trivial);have l:=zH (show w1.drew.heap[g]?=some (.cells M.toArray 48 (0,0)) from D.o);have N:=zH (n.o.trans (ChgR.below (o':=o1) t (fun _ _=>rfl)));have E:=zH (show w1.drew.heap[b]?=some (.cells (repC rho z r) 125 (0,0)) from j.o.blk.1);have x1:w1.drew.cell? ⟨b,1,none⟩=some (.int .i64 r.id):=j.o.c1;have Hy:=q.o.num.o;have Hq:b≠g:=by omega
 have B:=zH (show w1.drew.cell? ⟨b,1,none⟩=some (.int .i64 r.id)∧w1.drew.heap[g]?=some (.cells M.toArray 48 (0,0)) from⟨x1,l.o⟩);clear J I u i D q C t x1;refine wp_region_held_drew (S:=(fun W=>W.cell? ⟨b,1,none⟩=some (.int .i64 r.id)∧W.heap[g]?=some (.cells M.toArray 48 (0,0)))) (by kernel_rfl) B.o (fun c=>?_);change wpAnyH _ _ _ _ _ 17 (Array.replicate 17 false) _ _;generalize w1.drew=w2 at s R j L l N E B c ⊢
 (refine zT 0 6 rfl rfl (v:=?v6) (.inl ⟨by rfl,?y6⟩) ?_;case y6=>(intro w a;(try dsimp only at a);go_simp;try with_reducible rfl));(try dsimp only);simp only[zA,zC,zD]
 (refine zT 1 7 rfl rfl (v:=?v7) (.inl ⟨by rfl,?y7⟩) ?_;case y7=>(intro w a;(try dsimp only at a);go_simp;try with_reducible rfl));(try dsimp only);simp only[zA,zC,zD]
 (refine zT 2 8 rfl rfl (v:=?v8) (.inl ⟨by rfl,?y8⟩) ?_;case y8=>(intro w a;(try dsimp only at a);go_simp;try with_reducible rfl));(try dsimp only);simp only[zA,zC,zD]
 (refine zT 3 9 rfl rfl (v:=?v9) (.inl ⟨by rfl,?y9⟩) ?_;case y9=>(intro w a;(try dsimp only at a);go_simp;try with_reducible rfl));(try dsimp only);simp only[zA,zC,zD]
 (refine zT 5 11 rfl rfl (v:=?v11) (.inl ⟨by rfl,?y11⟩) ?_;case y11=>(intro w a;(try dsimp only at a);go_simp;try with_reducible rfl));(try dsimp only);simp only[zA,zC,zD]
 (refine zT 6 12 rfl rfl (v:=?v12) (.inl ⟨by rfl,?y12⟩) ?_;case y12=>(intro w a;(try dsimp only at a);go_simp;try with_reducible rfl));(try dsimp only);simp only[zA,zC,zD]
 (refine zT 7 13 rfl rfl (v:=?v13) (.inl ⟨by rfl,?y13⟩) ?_;case y13=>(intro w a;(try dsimp only at a);go_simp;try with_reducible rfl));(try dsimp only);simp only[zA,zC,zD]
 (refine zT 8 14 rfl rfl (v:=?v14) (.inl ⟨by rfl,?y14⟩) ?_;case y14=>(intro w a;(try dsimp only at a);go_simp;try with_reducible rfl));(try dsimp only);simp only[zA,zC,zD]
 (refine zT 9 15 rfl rfl (v:=?v15) (.inl ⟨by rfl,?y15⟩) ?_;case y15=>(intro w a;(try dsimp only at a);go_simp;try with_reducible rfl));(try dsimp only);simp only[zA,zC,zD]
 (refine zT 10 16 rfl rfl (yieldsIf_load_mid (by rfl) 48 (.tmp 5) (by rfl) g 0 (by rfl) M _ (fun W hW=>hEw hW.2) Tryz.underlying48 rfl (hBp M y.o)) ?_);(try dsimp only);simp only[zA,zC,zD]
 (refine zT 11 17 rfl rfl (hHq (by rfl) (.tmp 14) (.tmp 15) (.tmp 16) (by rfl) M y.o (r.id:Int) (to:Int) (by rfl) (by rfl) (by rfl)) ?_);(try dsimp only);simp only[zA,zC,zD];refine hEs 4 12 13 10 18 19 rfl rfl rfl (by kernel_rfl) (by kernel_rfl) (by kernel_rfl) (by kernel_rfl) (by decide) (by decide) rfl rfl rfl rfl rfl rfl 123 92 (.tmp 9) (.tmp 17) rfl rfl rfl o1 (tg r.id 11) i0 _ 19 232 Tryz.underlying123 Hh.o Hi.o Hj.o Hk.o rfl (by decide) (by decide) b 86 125 _ E.o z.O r.o.length z.oc ys rfl s.o (by decide) (.int .i64 r.id::.int .i64 to::M).toArray (by simp[y.o]) (by
  intro v K;simp at K;rcases K with rfl | rfl | K
  ·rfl
  ·rfl
  ·exact Q.o v K) ?h1 ?h2 (by simp) (by simp) (by unfold maxLen;omega) (by omega) B.o ?h3 ?h4 ?h5
 case h1=>
  rintro a' (h | rfl)
  ·simp[Act.eval,h]
  ·rfl
 case h2=>
  rintro a' (h | rfl)
  ·simp[Act.eval,h]
  ·rfl
 case h3=>exact⟨(((Below.refl w2.heap.size w2).alloc (Nat.le_refl _) _).cell (p:=⟨b,1,none⟩) j.o.lt).trans B.o.1,(heap_alloc_old _ _ (zL l.o)).trans l.o⟩
 case h4=>
  intro v' W d;have f:=(Below.refl w2.heap.size w2).alloc (Nat.le_refl _) (.cells (.int .i64 r.id::.int .i64 to::M).toArray 92);have X:=(f.block g (zL l.o)).trans l.o;have V:=(f.block b j.o.lt).trans E.o;have Hm:=(d.grown.block g (zL X) (fun e=>by have h1:=s.o.2 g e.symm;rw[H] at h1;unfold tg at h1;omega)).trans X;have Hl:=(d.grown.block b (zL V) (fun e=>j.o.blk.ne s.o.1 (by decide) e.symm)).trans V;exact⟨(zR W b 1 _ _ _ Hl).trans rfl,Hm⟩
 case h5=>
  intro v2 w5 d c;simp only[zA,zC,zD];obtain⟨VA,VC,rfl⟩:=hAk d.row.1;have f:=(Below.refl w2.heap.size w2).alloc (Nat.le_refl _) (.cells (.int .i64 r.id::.int .i64 to::M).toArray 92);obtain⟨q1,q2,q3⟩:=hX8 (j.o.keep f) (to:=to) (x:=x) (s.o.alloc _) (hGx R.o (P:=fun _=>True) (Fix.same (o:=o1) f) trivial) ⟨zz,(by rw[HM.o];rfl),L.o.fix (P:=fun _=>True) (Fix.same (o:=o1) f) trivial⟩ d;have Hb:=zH q1;have Hc:=zH q2;have Hf:=zH ((N.o.trans (ChgR.below f (fun _ _=>rfl))).trans q3);have t0:=zQ w5 b 86 (.slice z.O r.o.length z.oc) q1;have tf:=frozen_of_row w5 b 86 _ _ q1;have U:(w5.setCell ⟨b,86,none⟩ (.slice VA (r.o.length+1) VC)).cell? ⟨b,1,none⟩=some (.int .i64 r.id)∧(w5.setCell ⟨b,86,none⟩ (.slice VA (r.o.length+1) VC)).heap[g]?=some (.cells M.toArray 48 (0,0)):=⟨q2.c1,((hAb (hAa (Below.refl _ _) _) (p:=⟨b,86,none⟩) (.inl rfl) _:w5.grownBy (w5.setCell ⟨b,86,none⟩ (.slice VA (r.o.length+1) VC)) (some b)).block g (zL c.2) (fun e=>Hq (Option.some.inj e).symm)).trans c.2⟩;have Hg:=zH U;clear q1 q2 q3 f U
  (refine zT 14 20 rfl rfl (v:=?v20) (.inl ⟨by rfl,?y20⟩) ?_;case y20=>(intro w a;(try dsimp only at a);go_simp;try with_reducible rfl));(try dsimp only);simp only[zA,zC,zD]
  (refine zT 15 21 rfl rfl (v:=?v21) (.inl ⟨by rfl,?y21⟩) ?_;case y21=>(intro w a;(try dsimp only at a);go_simp;try with_reducible rfl));(try dsimp only);simp only[zA,zC,zD];refine hCl 16 rfl (by kernel_rfl) (by kernel_rfl) rfl rfl 123 (.tmp 21) (.tmp 19) rfl b 86 Hb.o rfl (by kernel_rfl) rfl rfl Hg.o ?_;clear t0 tf c d;go_wp2_with fail;go_end0;exact⟨rfl,_,_,Hc.o,Hf.o,rfl,rfl,rfl,rfl⟩
theorem hTz {o:Tags} {rho:Nat→Rq} {b:Nat} {z:RB} {r:SRep} {be m:Nat} (to:Nat) (x:SMsg) (zz:Sls) (w:World) (h:RepF w o rho b z r be (m+1)) (i:(x.fm rho).At w o zz) :
  Calls Tryz.prog 240 #[.pointer (some ⟨b,0,none⟩),.int .i64 to,.agg ((x.fm rho).cells zz)] w fun e w'=>e=.returned (.tuple #[])∧∃ o' z',RepF w' o' rho b z' { r with o:=r.o++[(to,x)] } be m∧ChgR (r.id+1) o o' w w'∧z'.tb=z.tb∧z'.lb=z.lb:=
 (hKi to x zz w h i).mono fun e w' ⟨a,o',z',c,d,f,g,_⟩=>⟨a,o',z',c,d,f,g⟩
theorem hNf {o:Tags} {rho:Nat→Rq} {b:Nat} {z:RB} {r:SRep} {be m:Nat} (to:Nat) (x:SMsg) (zz:Sls) (w:World) (h:RepF w o rho b z r be (m+1)) (f:(x.fm rho).At w o zz) :
  Calls Tryz.prog 240 #[.pointer (some ⟨b,0,none⟩),.int .i64 to,.agg ((x.fm rho).cells zz)] w fun e w'=>e=.returned (.tuple #[])∧∃ o' z',RepF w' o' rho b z' { r with o:=r.o++[(to,x)] } be m∧ChgR (r.id+1) o o' w w':=
 (hTz to x zz w h f).mono fun e w' ⟨a,o',z',c,d,_⟩=>⟨a,o',z',c,d⟩
theorem ChgR.at {k:Nat} {o o':Tags} {w w':World} (h:ChgR k o o' w w') {g:Nat} {x:Obj} (a:w.heap[g]?=some x) (b:o g / 16≠k):w'.heap[g]?=some x:=(h.block g (zL a) b).trans a
theorem hA7 {k:Nat} {o o':Tags} {w w':World} (h:ChgR (k+1) o o' w w'):Fix (· = 0) o o' w w':=h.fix (fun t a=>by subst a;simp)
theorem hKk {o:Tags} {rho:Nat→Rq} {b:Nat} {z:RB} {r:SRep} {be m:Nat} (x:SMsg) (zz:Sls) (w:World) (h:RepF w o rho b z r be (m+4)) (v:(x.fm rho).At w o zz) :
  Calls Tryz.prog 218 #[.pointer (some ⟨b,0,none⟩),.agg ((x.fm rho).cells zz)] w fun e w'=>e=.returned (.tuple #[])∧∃ o' z',RepF w' o' rho b z' (r.tell x) be m∧ChgR (r.id+1) o o' w w'∧z'.tb=z.tb∧z'.lb=z.lb∧z'.S=z.S∧z'.sc=z.sc:=by
 have a:=zH ((Below.refl w.heap.size w).alloc (Nat.le_refl _) (.cells ((x.fm rho).cells zz) 48));have u:=zH (heap_alloc_new w (.cells ((x.fm rho).cells zz) 48));have l:=zH (h.keepT a.o (Tags.ext_old o w.heap.size 7));have t:=Tags.ext_new o w.heap.size 7 w.heap.size (Nat.le_refl _);have p:=Tags.ext_old o w.heap.size 7;have f:=zH (ChgR.below (k:=r.id+1) a.o p);have s:=zH (v.fix (P:=fun _=>True) (Fix.below a.o p) trivial);have T:=zH h.lt;have C:=fun(k m':Nat) (r':SRep) zk wr ok (h:RepF wr ok rho b zk r' be (m' + 1)) v=>zH (hKi k x zz wr h v);obtain⟨M,O⟩:=zN (((x.fm rho).cells zz).toList);have N:zI (M.length=17):=zH (by rw[O];rfl);have D:(x.fm rho).cells zz=M.toArray:=by rw[O]
 have Hi:=h.num.id;rw[D] at a u l s f C ⊢;have x0:=l.o.c0;have y4:=l.o.t4;clear h v O D;go_enter Tryz.func218,Tryz.ntmps218;go_wp2_with fail;obtain⟨g,hg⟩:=zN (w.heap.size);rw[←hg] at u a T l s t p f ⊢;clear x0 y4;generalize o.ext g 7=o1 at l s t p f ⊢;clear hg;generalize w.alloc _=w1 at a u l s f ⊢;obtain⟨⟨m4,m63,mb,mo,F,Hg,G⟩,H⟩:=l.o.mem;have Q:=H _ F;have X:=zH G;rw[F];unfold maxLen at m63;clear G H;go_loopw [5,15] (fun _ j wr=>∃ k:Nat,k≤4∧j=.int .i64 k∧zI (∃ ok zk,RepF wr ok rho b zk { r with o:=r.o++(SRep.others r.id k).map fun i=>(i,x) } be (m+(4 - k))∧ChgR (r.id+1) o1 ok w1 wr∧zk.tb=z.tb∧zk.lb=z.lb∧zk.S=z.S∧zk.sc=z.sc)) (fun _ j _=>4 - (intOf j).toNat)
 case atStart=>exact⟨0,by omega,rfl,zH ⟨o1,z,by simpa[SRep.others] using l.o,ChgR.refl _ _ _,rfl,rfl,rfl,rfl⟩⟩
 case round=>
  obtain⟨k,hk,rfl,K⟩:=hrel;obtain⟨ok,zk,q,d,L⟩:=K.o;have c:=zH L;clear L;have q0:(0:Int)≤(k:Int):=by omega
  by_cases hk4:k<4
  ·have q1:(k:Int)<4:=by omega
   have Hc:wr.cell? ⟨mb,mo+k,none⟩=some (.int .i64 k):=by
    have h1:=X.o k hk4;have h2:=d.block mb Hg (by rw[Q];simp);unfold World.cell? at h1 ⊢;rw[h2];exact h1
   have x1:=q.c1;have V:=zH (d.at u.o (by rw[t];simp));have R:=zH (s.o.fix (hA7 d) rfl);have B:=zH q;have y:=zH d;clear q d K;by_cases hki:k=r.id
   ·have q2:(k:Int)=(r.id:Int):=by omega
    rw[←q2] at x1;have W:=zH hki;clear q2 hki;go_wp2_with fail;exact⟨⟨k+1,by omega,by go_num,zH ⟨ok,zk,by
     rw[show SRep.others r.id (k+1)=SRep.others r.id k by simp[SRep.others,W.o]];exact B.o.le (by omega),y.o,c.o⟩⟩,by simp[intOf];omega⟩
   ·have q2:((k:Int) != (r.id:Int))=true:=by simp;omega
    have J:=C k (m+(4 - (k+1))) { r with o:=r.o++(SRep.others r.id k).map fun i=>(i,x) } zk wr ok (by rw[show m+(4 - (k+1))+1=m+(4 - k) by omega];exact B.o) R.o;have Z:=zH (hEw V.o);go_wp2_with (first
     |refine wpList_load_mid (by rfl) 48 (.tmp 3) (by rfl) g 0 (by rfl) M _ Z.o Tryz.underlying48 rfl (hBp M N.o) ?_)
    refine J.o.mono ?_;rintro e w2 ⟨rfl,o2,z2,I,E,n⟩;have Ha:=zH (And.intro (n.1.trans c.o.1) (And.intro (n.2.1.trans c.o.2.1) (And.intro (n.2.2.1.trans c.o.2.2.1) (n.2.2.2.trans c.o.2.2.2))));clear n;have Y:=zH I;have U:=zH (y.o.trans E);clear I E x1 Hc J;go_wp2_with fail;exact⟨⟨k+1,by omega,by go_num,zH ⟨o2,z2,by
     have h:=Y.o;rw[show SRep.others r.id (k+1)=SRep.others r.id k++[k] by simp[SRep.others,hki],List.map_append,←List.append_assoc];exact h,U.o,Ha.o⟩⟩,by simp[intOf];omega⟩
  ·obtain rfl:k=4:=by omega
   clear hk4;go_wp2_with fail;go_end0;exact⟨rfl,ok,zk,q,f.o.trans d,c.o⟩
theorem hKj {o:Tags} {rho:Nat→Rq} {b:Nat} {z:RB} {r:SRep} {be m:Nat} (x:SMsg) (zz:Sls) (w:World) (h:RepF w o rho b z r be (m+4)) (i:(x.fm rho).At w o zz) :
  Calls Tryz.prog 218 #[.pointer (some ⟨b,0,none⟩),.agg ((x.fm rho).cells zz)] w fun e w'=>e=.returned (.tuple #[])∧∃ o' z',RepF w' o' rho b z' (r.tell x) be m∧ChgR (r.id+1) o o' w w'∧z'.tb=z.tb∧z'.lb=z.lb:=
 (hKk x zz w h i).mono fun e w' ⟨a,o',z',c,d,f,g,_⟩=>⟨a,o',z',c,d,f,g⟩
theorem hWa {o:Tags} {rho:Nat→Rq} {b:Nat} {z:RB} {r:SRep} {be m:Nat} (x:SMsg) (zz:Sls) (w:World) (h:RepF w o rho b z r be (m+4)) (f:(x.fm rho).At w o zz) :
  Calls Tryz.prog 218 #[.pointer (some ⟨b,0,none⟩),.agg ((x.fm rho).cells zz)] w fun e w'=>e=.returned (.tuple #[])∧∃ o' z',RepF w' o' rho b z' (r.tell x) be m∧ChgR (r.id+1) o o' w w':=
 (hKj x zz w h f).mono fun e w' ⟨a,o',z',c,d,_⟩=>⟨a,o',z',c,d⟩
theorem hMb:(Tryz.prog.info? 48).map (fun i=>(i.zero,i.size,i.bytes))=some (some (.agg #[.int .i64 0,.int .i64 0,.int .i64 0,.int .i64 0,.int .i64 0,.int .i64 0,.int .i64 0,.string ⟨#[]⟩,.float .f64 0,.int .i64 0,.int .i64 0,.float .f64 0,.string ⟨#[]⟩,.slice none 0 0,.slice none 0 0,.slice none 0 0,.slice none 0 0]),17,216):=by kernel_rfl
theorem fm_e (rho:Nat→Rq) (x:SMsg):(x.fm rho).e=x.e:=by unfold SMsg.fm;split<;>rfl
theorem hH8 {o:Tags} {rho:Nat→Rq} {b:Nat} {z:RB} {r:SRep} {be m:Nat} (x:SMsg) (hx:x.ok=true) (ae:x.e=r.log.e) (zz:Sls) (M0:Array Value) (N:M0=((x.fm rho).cells zz).setIfInBounds 1 (.int .i64 0)) (w:World) (h:RepF w o rho b z r be (m+5)) (U:(x.fm rho).At w o zz) :
  Calls Tryz.prog 238 #[.pointer (some ⟨b,0,none⟩),.agg M0] w fun e w'=>e=.returned (.tuple #[])∧∃ o' z',RepF w' o' rho b z' (r.say x) be m∧ChgR (r.id+1) o o' w w'∧z'.tb=z.tb∧z'.lb=z.lb:=by
 obtain⟨i0,Q,Hp,Hq,Hr⟩:=info_parts hMb;have hI:=zH Q;have hJ:=zH Hp;have hO:=zH Hq;have hU:=zH Hr;clear Q Hp Hq Hr;have O:M0.setIfInBounds 1 (.int .i64 r.log.e)=((x.fm rho).cells zz):=by
  rw[N,Array.setIfInBounds_setIfInBounds,←ae,←fm_e rho x];rfl
 have K:=fun(w:World) (o:Tags) (h:RepF w o rho b z r be (m+1+4)) U=>zH (hKj x zz w h U);have Hf:=zH (FM.one (x.fm rho) zz);have u:=(Below.refl w.heap.size w).alloc (Nat.le_refl _) (.cells M0 48);have G:=zH (heap_alloc_new w (.cells M0 48));have x0:=(h.keep u).c0;have y3:=(h.keep u).t3;obtain⟨M,L⟩:=zN (((x.fm rho).cells zz).toList);have t:zI (M.length=17):=zH (by rw[L];rfl);have Hj:(x.fm rho).cells zz=M.toArray:=by rw[L]
 have HM:=zH L;rw[Hj] at K O;rw[←L] at Hf;have Hm:M0[1]?=some (.int .i64 0):=by rw[N];rfl
 have E:=zH O;have j:=zH ((Below.refl w.heap.size w).alloc (Nat.le_refl _) (.cells M.toArray 48));have F:=zH (heap_alloc_new w (.cells M.toArray 48));have I:=zH (h.keepT j.o (Tags.ext_old o w.heap.size 7));have s:=Tags.ext_new o w.heap.size 7 w.heap.size (Nat.le_refl _);have l:=zH (ChgR.below (k:=r.id+1) j.o (Tags.ext_old o w.heap.size 7));have C:=zH (U.fix (P:=fun _=>True) (Fix.below j.o (Tags.ext_old o w.heap.size 7)) trivial);have Y:=zH h.lt;have t1:=(zR _ w.heap.size 1 _ _ _ G.o).trans Hm;have tf:=frozen_of_row _ w.heap.size 1 _ _ G.o;clear h U N L Hj O u G;go_enter Tryz.func238,Tryz.ntmps238;go_wp2_with (first
  |refine wpList_load_mid (by rfl) 48 (.tmp 3) (by rfl) w.heap.size 0 (by rfl) M _ (by rw[E.o];exact hEw F.o) Tryz.underlying48 rfl (hBp M t.o) ?_)
 rw[E.o];obtain⟨g,hg⟩:=zN (w.heap.size);rw[←hg] at F j Y I C s l ⊢;clear x0 y3 t1 tf hg E Hm;generalize o.ext g 7=o1 at I C s l ⊢;generalize w.alloc _=w2 at j F I C l ⊢;have Hi:=I;have D:=C;have Ha:=l;have H:=F;clear I C l F j;refine(K w2 o1 Hi.o D.o).o.mono ?_;rintro e w3 ⟨rfl,o3,z3,Hl,q,Ht⟩;have HJ:=zH Ht;clear Ht;have Hg:=zH (q.at H.o (by rw[s];simp));have V:=zH (D.o.fix (hA7 q) rfl);have Hu:o3 g=7:=(q.tags g (zL H.o)).trans s;have y:=zH Hl;have Hb:=zH (Ha.o.trans q);clear Hl q Hi D Ha H K s;go_wp2_with fail;obtain⟨ys,T,R⟩:=y.o.says';have n:Below w3.heap.size w3 w3.drew:=Below.drew (Below.refl _ _);have B:=zH (show Row w3.drew o3 (tg r.id 9) 48 17 (.slice z3.S r.says.length z3.sc) r.says.length ys from T);have Hh:=zH (hHy R (P:=fun _=>True) (Fix.same (o:=o3) n) trivial);have J:=zH (y.o.keep n);have X:=zH (V.o.fix (P:=fun _=>True) (Fix.same (o:=o3) n) trivial);have d:=zH (show w3.drew.heap[g]?=some (.cells M.toArray 48 (0,0)) from Hg.o);have Hc:=zH (Hb.o.trans (ChgR.below (k:=r.id+1) (o':=o3) n (fun _ _=>rfl)));have Z:=zH (show w3.drew.heap[b]?=some (.cells (repC rho z3 (r.tell x)) 125 (0,0)) from J.o.blk.1);have ak:r.says.length+(m+1)≤1000:=y.o.num.says;have aa:b≠g:=by have:=Y.o;omega
 clear T R y V Hg Hb n;refine wp_region_held_drew (S:=(fun W=>W.heap[g]?=some (.cells M.toArray 48 (0,0)))) (by kernel_rfl) d.o (fun c=>?_);change wpAnyH _ _ _ _ _ 11 (Array.replicate 11 false) _ _;generalize w3.drew=w4 at B Hh J X d Hc Z c ⊢
 (refine zT 0 16 rfl rfl (v:=?v16) (.inl ⟨by rfl,?y16⟩) ?_;case y16=>(intro w a;(try dsimp only at a);go_simp;try with_reducible rfl));(try dsimp only);simp only[zA,zC,zD]
 (refine zT 1 17 rfl rfl (v:=?v17) (.inl ⟨by rfl,?y17⟩) ?_;case y17=>(intro w a;(try dsimp only at a);go_simp;try with_reducible rfl));(try dsimp only);simp only[zA,zC,zD]
 (refine zT 2 18 rfl rfl (v:=?v18) (.inl ⟨by rfl,?y18⟩) ?_;case y18=>(intro w a;(try dsimp only at a);go_simp;try with_reducible rfl));(try dsimp only);simp only[zA,zC,zD]
 (refine zT 3 19 rfl rfl (v:=?v19) (.inl ⟨by rfl,?y19⟩) ?_;case y19=>(intro w a;(try dsimp only at a);go_simp;try with_reducible rfl));(try dsimp only);simp only[zA,zC,zD]
 (refine zT 5 21 rfl rfl (yieldsIf_load_mid (by rfl) 48 (.tmp 3) (by rfl) g 0 (by rfl) M _ (fun W hW=>hEw hW) Tryz.underlying48 rfl (hBp M t.o)) ?_);(try dsimp only);simp only[zA,zC,zD];refine hEs 4 6 7 20 22 23 rfl rfl rfl (by kernel_rfl) (by kernel_rfl) (by kernel_rfl) (by kernel_rfl) (by decide) (by decide) rfl rfl rfl rfl rfl rfl 118 48 (.tmp 19) (.tmp 21) rfl rfl rfl o3 (tg r.id 9) i0 _ 17 216 Tryz.underlying118 hI.o hJ.o hO.o hU.o rfl (by decide) (by decide) b 77 125 _ Z.o z3.S r.says.length z3.sc ys rfl B.o (by decide) M.toArray (by simp[t.o]) (by
  intro v hv;exact Hf.o v (by simpa using hv)) ?h1 ?h2 (by simp) (by simp) (by unfold maxLen;omega) (by omega) d.o ?h3 ?h4 ?h5
 case h1=>
  rintro a' (h | rfl)
  ·simp[Act.eval,h]
  ·rfl
 case h2=>
  rintro a' (h | rfl)
  ·simp[Act.eval,h]
  ·rfl
 case h3=>exact(heap_alloc_old _ _ (zL d.o)).trans d.o
 case h4=>
  intro v' W i;have f:=(Below.refl w4.heap.size w4).alloc (Nat.le_refl _) (.cells M.toArray 48);have Hk:=(f.block g (zL d.o)).trans d.o;exact(i.grown.block g (zL Hk) (fun e=>by have h1:=B.o.2 g e.symm;rw[Hu] at h1;unfold tg at h1;omega)).trans Hk
 case h5=>
  intro v2 w5 i c;simp only[zA,zC,zD];obtain⟨VA,VC,rfl⟩:=hAk i.row.1;have f:=(Below.refl w4.heap.size w4).alloc (Nat.le_refl _) (.cells M.toArray 48);obtain⟨q1,q2,q3⟩:=hV9 (J.o.keep f) hx (B.o.alloc _) (hHy Hh.o (P:=fun _=>True) (Fix.same (o:=o3) f) trivial) ⟨zz,(by rw[HM.o]),X.o.fix (P:=fun _=>True) (Fix.same (o:=o3) f) trivial⟩ i;have Hw:=zH q1;have Hx:=zH q2;have Hy:=zH ((Hc.o.trans (ChgR.below f (fun _ _=>rfl))).trans q3);have t0:=zQ w5 b 77 (.slice z3.S r.says.length z3.sc) q1;have tf:=frozen_of_row w5 b 77 _ _ q1;have Hz:=zH (((hAb (hAa (Below.refl _ _) _) (p:=⟨b,77,none⟩) (.inl rfl) _:w5.grownBy (w5.setCell ⟨b,77,none⟩ (.slice VA (r.says.length+1) VC)) (some b)).block g (zL c) (fun e=>aa (Option.some.inj e).symm)).trans c);clear q1 q2 q3 f
  (refine zT 8 24 rfl rfl (v:=?v24) (.inl ⟨by rfl,?y24⟩) ?_;case y24=>(intro w a;(try dsimp only at a);go_simp;try with_reducible rfl));(try dsimp only);simp only[zA,zC,zD]
  (refine zT 9 25 rfl rfl (v:=?v25) (.inl ⟨by rfl,?y25⟩) ?_;case y25=>(intro w a;(try dsimp only at a);go_simp;try with_reducible rfl));(try dsimp only);simp only[zA,zC,zD];refine hCl 10 rfl (by kernel_rfl) (by kernel_rfl) rfl rfl 118 (.tmp 25) (.tmp 23) rfl b 77 Hw.o rfl (by kernel_rfl) rfl rfl Hz.o ?_;clear t0 tf c i;go_wp2_with fail;go_end0;exact⟨rfl,_,_,Hx.o,Hy.o,HJ.o⟩
theorem hE0 {o:Tags} {rho:Nat→Rq} {b:Nat} {z:RB} {r:SRep} {be m:Nat} (x:SMsg) (j:x.ok=true) (c:x.e=r.log.e) (zz:Sls) (M0:Array Value) (a:M0=((x.fm rho).cells zz).setIfInBounds 1 (.int .i64 0)) (w:World) (h:RepF w o rho b z r be (m+5)) (i:(x.fm rho).At w o zz) :
  Calls Tryz.prog 238 #[.pointer (some ⟨b,0,none⟩),.agg M0] w fun e w'=>e=.returned (.tuple #[])∧∃ o' z',RepF w' o' rho b z' (r.say x) be m∧ChgR (r.id+1) o o' w w':=
 (hH8 x j c zz M0 a w h i).mono fun e w' ⟨d,o',z',f,g,_⟩=>⟨d,o',z',f,g⟩
noncomputable def wt8 (rho:Nat→Rq) (n:Nat):Array Value:=#[.int .i64 ((wcl n:Nat):Int),.int .i64 ((wrq rho n).st:Int),.int .i64 ((wrq rho n).kind:Int),.string (wrq rho n).key,.float .f64 (wrq rho n).real,.int .i64 0,.int .i64 ((wby n:Nat):Int),.string (wtx rho n)]
noncomputable def waitsL (rho:Nat→Rq) (n:Nat):List Value:=[.int .i64 0,.int .i64 0,.int .i64 0,.string ⟨#[]⟩,.float .f64 0,.int .i64 0,.int .i64 0,.string ⟨#[]⟩,.int .i64 ((wcl n:Nat):Int),.int .i64 ((wrq rho n).st:Int),.int .i64 ((wrq rho n).kind:Int),.string (wrq rho n).key,.float .f64 (wrq rho n).real,.int .i64 0,.int .i64 ((wby n:Nat):Int),.string (wtx rho n),.int .i64 0,.int .i64 0,.int .i64 0,.string ⟨#[]⟩,.float .f64 0,.int .i64 0,.int .i64 0,.string ⟨#[]⟩,.int .i64 0,.int .i64 0,.int .i64 0,.string ⟨#[]⟩,.float .f64 0,.int .i64 0,.int .i64 0,.string ⟨#[]⟩,.int .i64 0,.int .i64 0,.int .i64 0,.string ⟨#[]⟩,.float .f64 0,.int .i64 0,.int .i64 0,.string ⟨#[]⟩,.int .i64 0,.int .i64 0,.int .i64 0,.string ⟨#[]⟩,.float .f64 0,.int .i64 0,.int .i64 0,.string ⟨#[]⟩,.int .i64 0,.int .i64 0,.int .i64 0,.string ⟨#[]⟩,.float .f64 0,.int .i64 0,.int .i64 0,.string ⟨#[]⟩,.int .i64 0,.int .i64 0,.int .i64 0,.string ⟨#[]⟩,.float .f64 0,.int .i64 0,.int .i64 0,.string ⟨#[]⟩,.int .i64 0,.int .i64 0,.int .i64 0,.string ⟨#[]⟩,.float .f64 0,.int .i64 0,.int .i64 0,.string ⟨#[]⟩]
theorem hQy (rho:Nat→Rq) (z:RB) (r:SRep) (j:Nat) (v:Value) (h:(waitsL rho r.waiting)[j]?=some v):(repC rho z r)[5+j]?=some v:=by
 have a:j<72:=(List.getElem?_eq_some_iff.1 h).1;have e:(repC rho z r).toList=((repC rho z r).toList.take 5)++(waitsL rho r.waiting++(repC rho z r).toList.drop 77):=rfl;rw[←Array.getElem?_toList,e,List.getElem?_append_right (by show 5≤5+j;omega)];show(waitsL rho r.waiting++_)[5+j - 5]?=_;rw[Nat.add_sub_cancel_left,List.getElem?_append_left (by show j<72;exact a)];exact h
theorem RepF.waits {o:Tags} {w:World} {rho:Nat→Rq} {b:Nat} {z:RB} {r:SRep} {be m:Nat} (h:RepF w o rho b z r be m):w.rangeAt b 5 (waitsL rho r.waiting):=fun j v a=>h.cell (5+j) (hQy rho z r j v a)
theorem hRj (rho:Nat→Rq) (n:Nat):(Tryz.prog.info? 117).map (·.size)=some (waitsL rho n).length:=by
 show _=some 72
 kernel_rfl
theorem hOu (rho:Nat→Rq) (n k:Nat) (a:k<9) (w:World):(Instr.index 117 (.agg (waitsL rho n).toArray) (.int .i64 k)).run Tryz.prog w=.ok (.agg (wt8 rho (if k=1 then n else 0))) w:=by
 obtain rfl | rfl | rfl | rfl | rfl | rfl | rfl | rfl | rfl:k=0∨k=1∨k=2∨k=3∨k=4∨k=5∨k=6∨k=7∨k=8:=by omega
 all_goals kernel_rfl
theorem RepF.tim {o:Tags} {w:World} {rho:Nat→Rq} {b:Nat} {z:RB} {r:SRep} {be m:Nat} (h:RepF w o rho b z r be m):TmAt w z.tm r.fails r.running r.tend∧o z.tm=tg r.id 8:=h.part 8
theorem hCz {o:Tags} {w w':World} {rho:Nat→Rq} {b:Nat} {z:RB} {r:SRep} {be m:Nat} (h:RepF w o rho b z r be m) {f:Nat} {run:Bool} {tend:Nat} (i:TmAt w' z.tm f run tend) (c:w.grownBy w' (some z.tm)) (a:f≤1) (e:tend≤10000) :
  RepF w' o rho b z { r with fails:=f,running:=run,tend:=tend } be m∧ChgR (r.id+1) o o w w':=by
 have hc:Chg (tg r.id 8) o o w w':=Chg.grown c (fun k d _=>by cases d;exact h.tim.2);exact⟨h.upd1 8 hc { h.num with fails:=a,tend:=e } (fun p g=>by rcases p with _|_|_|_|_|_|_|_|_|_|_|_|_|_|p<;>first | exact absurd (by decide) g | rfl) ⟨i,h.tim.2⟩,hc.r (by decide)⟩
theorem hI8 {r:SRep} (h:r.waiting=0):r.restart=r.stop:=if_pos h
theorem hO7 {r:SRep} (h:r.waiting≠0):r.restart={ r with running:=true,tend:=r.now+waitN r.fails }:=by
 unfold SRep.restart;rw[if_neg h];rfl
theorem hDp {o:Tags} {rho:Nat→Rq} {b:Nat} {z:RB} {r:SRep} {be m:Nat} (w:World) (h:RepF w o rho b z r be m) :
  Calls Tryz.prog 280 #[.pointer (some ⟨b,0,none⟩)] w fun e w'=>e=.returned (.tuple #[])∧∃ o',RepF w' o' rho b z r.restart be m∧ChgR (r.id+1) o o' w w':=by
 have x4:=h.c4;have I:=zH (hUi z.tm r.fails r.running r.tend w h.tim.1);have X:=zH h;have M:=h.num.fails;have R:=h.num.tend;have Hl:=h.num.now;have Hi:waitN r.fails≤512:=by unfold waitN;omega
 have F:=fun k hk w=>zH (hOu rho r.waiting k hk w);clear h;go_enter Tryz.func280,Tryz.ntmps280;go_wp2_with fail;refine I.o.mono ?_;rintro e w1 ⟨rfl,B,hg⟩;obtain⟨x,a⟩:=hCz X.o B hg M R;have Y:=zH (show RepF w1 o rho b z r.stop be m from x);have S:=zH a;have p:=zH x.waits;have J:=zH (hRj rho r.waiting);have HZ:=fun n=>zH (show(wt8 rho n).size=8 from rfl);have HO:=fun n=>zH (show(wt8 rho n).all (·.oneCell')=true by unfold wt8;simp[Value.oneCell']);have Hb:=fun n=>zH (show(wt8 rho n)[0]?=some (.int .i64 ((wcl n:Nat):Int)) from rfl);change zI (w1.rangeAt b 5 (waitsL rho r.waiting)) at p;generalize waitsL rho r.waiting=WL at F p J;clear x4 B hg x a I X R;go_wp2_with (first
  |refine wpList_load_mid (by rfl) 117 (.tmp 11) (by rfl) b 5 (by rfl) WL _ p.o Tryz.underlying117 rfl J.o ?_)
 go_loopw [3,13] (fun _ j wr=>∃ k:Nat,k≤9∧j=.int .i64 k∧zI (∃ ok,RepF wr ok rho b z (if k≤1 then r.stop else r.restart) be m∧ChgR (r.id+1) o ok w wr)) (fun _ j _=>9 - (intOf j).toNat)
 case atStart=>exact⟨0,by omega,rfl,zH ⟨o,Y.o,S.o⟩⟩
 case round=>
  obtain⟨k,hk,rfl,P⟩:=hrel;obtain⟨ok,l,i⟩:=P.o;have q0:(0:Int)≤(k:Int):=by omega
  by_cases hk9:k<9
  ·have q1:(k:Int)<9:=by omega
   have s:=(F k hk9 wr).o;obtain⟨n8,u⟩:=zN (if k=1 then r.waiting else 0);rw[←u] at s;have d:=HZ n8;have v:=HO n8;have Q:=Hb n8;have E:=zH Q;have G:=zH u;generalize wt8 rho n8=R8 at s d v E;clear Q u;have Hp:=zH l;have Hm:=zH i;have q:=(Below.refl wr.heap.size wr).alloc (Nat.le_refl _) (.cells R8 116);have g:=zH (l.keep q);have f:=zH (i.trans (ChgR.below (k:=r.id+1) (o':=ok) q (fun _ _=>rfl)));have C:=(zR _ wr.heap.size 0 _ _ _ (heap_alloc_new wr (.cells R8 116))).trans E.o;clear P l i q;by_cases h1:k=1∧r.waiting≠0
   ·obtain⟨t,D⟩:=h1;have a:((wcl n8:Nat):Int)=1:=by rw[G.o,if_pos t];unfold wcl;rw[if_neg D];rfl
    rw[a] at C;have Hc:=zH D;have c:=zH (show RepF _ ok rho b z r.stop be m by have h:=g.o;rw[if_pos (by omega)] at h;exact h);have W:=zH t;clear a D t g;go_wp2_with (first
     |(refine wpList_store_row (by rfl) 116 (.tmp 3) (.tmp 15) (by rfl) wr.heap.size R8 (by rfl) (by rfl) 116 _ (heap_alloc_new wr _) (by rw[d.o];kernel_rfl) (by rw[d.o];rfl) v.o ?_;rw[World.setRow_alloc_new]))
    clear s C;generalize wr.alloc _=w2 at c f ⊢;have K:=c.o.lt;have y4:=fun y:Bel w2.heap.size w2=>y.cell K (c.o.c4);have y87:=fun y:Bel w2.heap.size w2=>y.cell K (c.o.c87);refine hAi 8 w2.heap.size w2 (by kernel_rfl) (by kernel_rfl) (Below.refl _ _) ?_;simp only[List.take_succ_cons,List.take_zero,List.drop_succ_cons,List.drop_zero];repeat (go_big_quiet_step (fail))
    refine wpQuiet_nil ?_;rintro⟨wy,hy⟩;show wpList _ _ _ _ _ wy;have H:=zH (c.o.keep hy);have Ha:=zH (hNw z.tm r.fails (by omega) r.tend r.now (by omega) wy H.o.tim.1);have U:=zH (f.o.trans (ChgR.below (k:=r.id+1) (o':=ok) hy (fun _ _=>rfl)));clear y4 y87;go_wp2_with fail;refine Ha.o.mono ?_;rintro e w3 ⟨rfl,B,N⟩;obtain⟨O,L⟩:=hCz H.o B N M (by omega);have Z:=zH O;have T:=zH (U.o.trans L);clear B N O L;go_wp2_with fail;exact⟨⟨k+1,by omega,by go_num,zH ⟨ok,by
     rw[if_neg (by have:=W.o;omega),hO7 Hc.o];exact Z.o,T.o⟩⟩,by simp[intOf];omega⟩
   ·have a:((wcl n8:Nat):Int)=0:=by
     rw[G.o];by_cases h2:k=1
     ·rw[if_pos h2,show r.waiting=0 from Classical.not_not.1 fun h=>h1 ⟨h2,h⟩];rfl
     ·rw[if_neg h2];rfl
    rw[a] at C;have V:=zH h1;clear a h1;go_wp2_with (first
     |(refine wpList_store_row (by rfl) 116 (.tmp 3) (.tmp 15) (by rfl) wr.heap.size R8 (by rfl) (by rfl) 116 _ (heap_alloc_new wr _) (by rw[d.o];kernel_rfl) (by rw[d.o];rfl) v.o ?_;rw[World.setRow_alloc_new]))
    generalize wr.alloc _=w2 at g f ⊢;exact⟨⟨k+1,by omega,by go_num,zH ⟨ok,by
     have h:=g.o;by_cases h2:k=1
     ·subst h2;rw[if_neg (by omega),hI8 (Classical.not_not.1 fun h=>V.o ⟨rfl,h⟩)];exact h
     ·have e:(if k+1≤1 then r.stop else r.restart)=(if k≤1 then r.stop else r.restart):=by
       by_cases h3:k=0
       ·rw[if_pos (by omega),if_pos (by omega)]
       ·rw[if_neg (by omega),if_neg (by omega)]
      rw[e];exact h,f.o⟩⟩,by simp[intOf];omega⟩
  ·obtain rfl:k=9:=by omega
   clear hk9;go_wp2_with fail;go_end0;exact⟨rfl,ok,l,i⟩
end Go.Proofs.YtlibpcllceepkaaGreat
