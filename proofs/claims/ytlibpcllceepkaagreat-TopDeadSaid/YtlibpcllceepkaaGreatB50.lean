/- Joined texts of the claim. No condition. -/
import Derived.Test.YtlibpcllceepkaaGreatB48
import Derived.Test.YtlibpcllceepkaaGreatB49
import Derived.Test.YtlibpcllceepkaaGreatB11
import Derived.Test.YtlibpcllceepkaaGreatB47
namespace Go.Proofs.YtlibpcllceepkaaGreat
open Go.RowKit
set_option maxRecDepth 100000
set_option linter.unusedVariables false
set_option linter.unusedSimpArgs false
set_option maxHeartbeats 16000000
theorem hUs {o:Tags} {rho:Nat→Rq} {b:Nat} {p:WB} {W W':SWorld} (P:ROk rho) (v:SW.ask W=some W') (w:World) (h:WorldAt w o rho b p W) :
  Calls Tryz.prog 29 #[.pointer (some ⟨b,0,none⟩),.int .i64 1,.agg #[.int .i64 ((rho (W.cli.stamp+1)).kind:Int),.string (rho (W.cli.stamp+1)).key,.float .f64 (rho (W.cli.stamp+1)).real,.int .i64 0]] w fun e w'=>e=.returned (.int .i64 0)∧∃ o',WorldAt w' o' rho b p W'∧ChgW o o' w w':=by
 obtain⟨J,_,L,_,T⟩:=hFy v;obtain⟨F,G,E⟩:=hDd T;have l:=(Below.refl w.heap.size w).alloc (Nat.le_refl _) (.cells #[.int .i64 ((rho (W.cli.stamp+1)).kind:Int),.string (rho (W.cli.stamp+1)).key,.float .f64 (rho (W.cli.stamp+1)).real,.int .i64 0] 34);have S:=heap_alloc_new w (.cells #[.int .i64 ((rho (W.cli.stamp+1)).kind:Int),.string (rho (W.cli.stamp+1)).key,.float .f64 (rho (W.cli.stamp+1)).real,.int .i64 0] 34);have u:=h.keep l;obtain⟨z,U⟩:=u.cli;have a:=zH (hW7 P J L _ U);have f:=zH u;have k:=zH (ChgW.below (o':=o) l (fun _ _=>rfl));have O:=zH (And.intro F (And.intro G E));have V:=zH P;have d:=zH S;generalize (rho (W.cli.stamp+1)).kind=kd at a f k d ⊢;generalize (rho (W.cli.stamp+1)).key=ky at a f k d ⊢;generalize (rho (W.cli.stamp+1)).real=re at a f k d ⊢;clear h P v J L T F G E l S u U;go_enter Tryz.func29,Tryz.ntmps29;go_upto_region 1 with fail;obtain⟨g,R⟩:=zN (w.heap.size);rw[←R] at d ⊢;clear R;generalize w.alloc _=w1 at a f k d ⊢;obtain⟨_,c1,c2,_⟩:=f.o.c;have H:=hAm (w:=w1) (l1:=[]) (l2:=[]) false hAh Tryz.underlying76 f.o.cmap.1;simp only[Bool.false_eq_true,if_false] at H;have o0:=zQ w1 g 0 (.int .i64 kd) d.o;have o1:=zQ w1 g 1 (.string ky) d.o;have o2:=zQ w1 g 2 (.float .f64 re) d.o;have o3:=zQ w1 g 3 (.int .i64 0) d.o;go_wp2_with fail;refine a.o.mono ?_;rintro e w2 ⟨A,cc,xs,o2',z2,rfl,t,s,q,m⟩;have j:=f.o.cli_set m q;obtain⟨_,_,d2,_⟩:=j.c;have K:=hGz (i:=tg 5 0) t s rfl (by decide);have M:=hCw p.lb p.bb p.mb (tg 5 0) (by decide) o2' (W.lane.map (pkW rho)) (toFour rho ⟨1,0,0,W.cli.stamp+1,[]⟩) A 4 cc (by rw[List.length_map];exact O.o.1) (fun x v=>by
  have X:x∈(SW.tell4 ⟨1,0,0,W.cli.stamp+1,[]⟩).map (pkF rho 101):=v;obtain⟨y,Y,rfl⟩:=List.mem_map.1 X;exact hLo V.o (O.o.2.1 y Y) _ _) w2 j.lane K
 have C:=zH M;have D:=zH j;have B:=zH (k.o.trans (ChgW.of_r m (by omega)));clear c1 c2 H o0 o1 o2 o3 t s q m j K M a f k d;go_wp2_with fail;refine C.o.mono ?_;rintro e w3 ⟨rfl,o3',r,n⟩;have I:W.lane.map (pkW rho)++toFour rho ⟨1,0,0,W.cli.stamp+1,[]⟩=(W.lane++(SW.tell4 ⟨1,0,0,W.cli.stamp+1,[]⟩).map fun x:Nat×SMsg=>(101,x.1,x.2)).map (pkW rho):=by
  rw[List.map_append,List.map_map];rfl
 rw[I] at r;have N:=D.o.lane_set n r;have Q:=zH (show WorldAt w3 o3' rho b p W'∧ChgW o o3' w w3 from⟨by rw[O.o.2.2];exact N,B.o.trans (ChgW.of_chg n (by decide))⟩);clear d2 r n I N C D B;go_wp2_with fail;go_ret;exact⟨rfl,o3',Q.o.1,Q.o.2⟩
theorem hOa {o:Tags} {rho:Nat→Rq} {b:Nat} {p:WB} {W:SWorld} (y:W.cli.stamp≤8) (kd:Int) (F:kd≤5) (ky:ByteArray) (B:ky.size≤maxLen) (re:Nat) (id:Int) (v:opOk kd ky re id=false) (w:World) (h:WorldAt w o rho b p W) :
  Calls Tryz.prog 29 #[.pointer (some ⟨b,0,none⟩),.int .i64 1,.agg #[.int .i64 kd,.string ky,.float .f64 re,.int .i64 id]] w fun e w'=>e=.returned (.int .i64 1)∧∃ o',WorldAt w' o' rho b p W∧ChgW o o' w w':=by
 have j:=(Below.refl w.heap.size w).alloc (Nat.le_refl _) (.cells #[.int .i64 kd,.string ky,.float .f64 re,.int .i64 id] 34);have H:=heap_alloc_new w (.cells #[.int .i64 kd,.string ky,.float .f64 re,.int .i64 id] 34);have n:=h.keep j;obtain⟨z,I⟩:=n.cli;have d:=zH (hQe y kd F ky B re id v _ I);have i:=zH n;have C:=zH (ChgW.below (o':=o) j (fun _ _=>rfl));have f:=zH H;clear h y v j H n I F B;go_enter Tryz.func29,Tryz.ntmps29;go_upto_region 1 with fail;obtain⟨g,E⟩:=zN (w.heap.size);rw[←E] at f ⊢;clear E;generalize w.alloc _=w1 at d i C f ⊢;obtain⟨_,c1,_,_⟩:=i.o.c;have u:=hAm (w:=w1) (l1:=[]) (l2:=[]) false hAh Tryz.underlying76 i.o.cmap.1;simp only[Bool.false_eq_true,if_false] at u;have o0:=zQ w1 g 0 (.int .i64 kd) f.o;have o1:=zQ w1 g 1 (.string ky) f.o;have o2:=zQ w1 g 2 (.float .f64 re) f.o;have o3:=zQ w1 g 3 (.int .i64 id) f.o;go_wp2_with fail;refine d.o.mono ?_;rintro e w2 ⟨rfl,k⟩;have a:=i.o.keep k;obtain⟨_,_,d2,_⟩:=a.c;have G:=a.lane.lim;have m:=hCw p.lb p.bb p.mb (tg 5 0) (by decide) o (W.lane.map (pkW rho)) [] none 0 0 (by omega) (fun x J=>by cases J) w2 a.lane ⟨rfl,Nat.le_refl _,by omega,[],rfl,fun h=>by cases h⟩;rw[List.append_nil] at m;have r:=zH m;have s:=zH a;have q:=zH (C.o.trans (ChgW.below (o':=o) k (fun _ _=>rfl)));clear c1 u o0 o1 o2 o3 k a m G d i C f;go_wp2_with fail;refine r.o.mono ?_;rintro e w3 ⟨rfl,o3',t,l⟩;have D:=zH (show WorldAt w3 o3' rho b p W∧ChgW o o3' w w3 from⟨s.o.lane_set l t,q.o.trans (ChgW.of_chg l (by decide))⟩);clear d2 t l r s q;go_wp2_with fail;go_ret;exact⟨rfl,o3',D.o.1,D.o.2⟩
def doC (k n a:Int) (ky:ByteArray) (re:Nat) (id:Int):Array Value:=
 #[.int .i64 k,.int .i64 n,.int .i64 0,.int .i64 a,.string ky,.float .f64 re,.int .i64 id,.int .i64 0,.int .i64 0,.int .i64 0,.int .i64 0,.int .i64 0,.int .i64 0,.int .i64 0,.string ⟨#[]⟩,.float .f64 0,.int .i64 0,.int .i64 0,.float .f64 0,.string ⟨#[]⟩,.slice none 0 0,.slice none 0 0,.slice none 0 0,.slice none 0 0]
theorem hHt {w:World} {g:Nat} {k n a:Int} {ky:ByteArray} {re:Nat} {id:Int} (h:w.heap[g]?=some (.cells (doC k n a ky re id) 50 (0,0))) :
  w.cell? ⟨g,0,none⟩=some (.int .i64 k)∧w.cell? ⟨g,1,none⟩=some (.int .i64 n)∧w.cell? ⟨g,3,none⟩=some (.int .i64 a)∧w.cell? ⟨g,4,none⟩=some (.string ky)∧w.cell? ⟨g,5,none⟩=some (.float .f64 re)∧w.cell? ⟨g,6,none⟩=some (.int .i64 id):=
 ⟨zR w g 0 _ _ _ h,zR w g 1 _ _ _ h,zR w g 3 _ _ _ h,zR w g 4 _ _ _ h,zR w g 5 _ _ _ h,zR w g 6 _ _ _ h⟩
theorem hDl {o:Tags} {rho:Nat→Rq} {b:Nat} {p:WB} {W W':SWorld} (l:ROk rho) (m:SW.flush W=some W') (w:World) (h:WorldAt w o rho b p W) :
  Calls Tryz.prog 8 #[.pointer (some ⟨b,0,none⟩),.agg (doC 7 8 0 ⟨#[]⟩ 0 0)] w fun e w'=>e=.returned (.int .i64 0)∧∃ o',WorldAt w' o' rho b p W'∧ChgW o o' w w':=by
 obtain⟨C,c⟩:=zN (doC 7 8 0 ⟨#[]⟩ 0 0);rw[←c];have a:=(Below.refl w.heap.size w).alloc (Nat.le_refl _) (.cells C 50);have g:=heap_alloc_new w (.cells C 50);have j:=zH (hPi l m _ (h.keep a));have i:=zH (ChgW.below (o':=o) a (fun _ _=>rfl));rw[c] at g;obtain⟨c0,c1,_⟩:=hHt g;rw[←c] at c0 c1;clear h l m a g c;go_enter Tryz.func8,Tryz.ntmps8;go_wp2_with fail;refine j.o.mono ?_;rintro e w2 ⟨rfl,o2,f,d⟩;have k:=zH (And.intro f (i.o.trans d));clear f d c0 c1 j i;go_wp2_with fail;go_ret;exact⟨rfl,o2,k.o.1,k.o.2⟩
theorem hLj {o:Tags} {rho:Nat→Rq} {b:Nat} {p:WB} {W W':SWorld} (l:ROk rho) (n:SW.tick W=some W') (m:(W.reps.map (·.id)).Pairwise (· < ·)) (w:World) (h:WorldAt w o rho b p W) :
  Calls Tryz.prog 8 #[.pointer (some ⟨b,0,none⟩),.agg (doC 4 (-1) 0 ⟨#[]⟩ 0 0)] w fun e w'=>e=.returned (.int .i64 0)∧∃ o',WorldAt w' o' rho b p W'∧ChgW o o' w w':=by
 obtain⟨C,c⟩:=zN (doC 4 (-1) 0 ⟨#[]⟩ 0 0);rw[←c];have a:=(Below.refl w.heap.size w).alloc (Nat.le_refl _) (.cells C 50);have g:=heap_alloc_new w (.cells C 50);have j:=zH (hRm l n m _ (h.keep a));have i:=zH (ChgW.below (o':=o) a (fun _ _=>rfl));rw[c] at g;obtain⟨c0,c1,_⟩:=hHt g;rw[←c] at c0 c1;clear h l n m a g c;go_enter Tryz.func8,Tryz.ntmps8;go_wp2_with fail;refine j.o.mono ?_;rintro e w2 ⟨rfl,o2,f,d⟩;have k:=zH (And.intro f (i.o.trans d));clear f d c0 c1 j i;go_wp2_with fail;go_ret;exact⟨rfl,o2,k.o.1,k.o.2⟩
theorem hHo {o:Tags} {rho:Nat→Rq} {b:Nat} {p:WB} {W W':SWorld} (kd:Int) (ky:ByteArray) (re:Nat) (id en:Int) (w:World) (h:WorldAt w o rho b p W)
  (H:∀ w1,WorldAt w1 o rho b p W→Calls Tryz.prog 29 #[.pointer (some ⟨b,0,none⟩),.int .i64 1,.agg #[.int .i64 kd,.string ky,.float .f64 re,.int .i64 id]] w1 fun e w'=>e=.returned (.int .i64 en)∧∃ o',WorldAt w' o' rho b p W'∧ChgW o o' w1 w') :
  Calls Tryz.prog 8 #[.pointer (some ⟨b,0,none⟩),.agg (doC 5 1 kd ky re id)] w fun e w'=>e=.returned (.int .i64 en)∧∃ o',WorldAt w' o' rho b p W'∧ChgW o o' w w':=by
 obtain⟨C,c⟩:=zN (doC 5 1 kd ky re id);rw[←c];have a:=(Below.refl w.heap.size w).alloc (Nat.le_refl _) (.cells C 50);have g:=heap_alloc_new w (.cells C 50);have j:=zH (H _ (h.keep a));have i:=zH (ChgW.below (o':=o) a (fun _ _=>rfl));rw[c] at g;obtain⟨c0,c1,c3,c4,c5,c6⟩:=hHt g;rw[←c] at c0 c1 c3 c4 c5 c6;clear h H a g c;go_enter Tryz.func8,Tryz.ntmps8;go_wp2_with fail;refine j.o.mono ?_;rintro e w2 ⟨rfl,o2,f,d⟩;have k:=zH (And.intro f (i.o.trans d));clear f d c0 c1 c3 c4 c5 c6 j i;go_wp2_with fail;go_ret;exact⟨rfl,o2,k.o.1,k.o.2⟩
structure AskT where
 cl:Int
 st:Int
 kd:Int
 key:ByteArray
 bits:Nat
 id:Int
def AskT.good (a:AskT):Bool:=decide (a.kd≤5) && opOk a.kd a.key a.bits a.id
def AskT.cells (a:AskT):List Value:=[.int .i64 a.cl,.int .i64 a.st,.int .i64 a.kd,.string a.key,.int .u64 (a.bits:Int),.int .i64 a.id]
def askOne:AskT:=⟨0,0,1,⟨#[107]⟩,4611686018427387904,0⟩
def AskT.rq (a:AskT) (n:Nat):Rq:=⟨n,a.kd.toNat,a.key,a.bits⟩
def rhoOf (l:List AskT) (n:Nat):Rq:=((l.filter AskT.good).getD (n - 1) askOne).rq n
theorem hIq {a:AskT} (h:a.good=true):1≤a.kd∧a.kd≤5∧1≤a.key.size∧a.key.size≤16∧a.id=0∧opOk a.kd.toNat a.key a.bits 0=true:=by
 unfold AskT.good at h;simp only[Bool.and_eq_true,decide_eq_true_eq] at h;obtain⟨i,b⟩:=h;have d:=b;unfold opOk at b;simp only[Bool.and_eq_true,decide_eq_true_eq] at b;obtain⟨⟨e,⟨f,g⟩,c⟩,_⟩:=b;refine⟨e,i,f,g,c,?_⟩;rw[c] at d
 rwa [Int.toNat_of_nonneg (by omega)]
theorem hG8:askOne.good=true:=by decide +kernel
theorem hT9 {l:List AskT} (h:∀ a∈l,a.bits<18446744073709551616):ROk (rhoOf l):=by
 intro n e j;have f:∀ i,((l.filter AskT.good).getD i askOne).good=true∧((l.filter AskT.good).getD i askOne).bits<18446744073709551616:=by
  intro i;rw[List.getD_eq_getElem?_getD];cases hc:(l.filter AskT.good)[i]? with
  |none=>exact⟨hG8,by decide⟩
  |some a=>
   have b:=List.mem_of_getElem? hc;rw[List.mem_filter] at b;exact⟨b.2,h a b.1⟩
 obtain⟨c,d⟩:=f (n - 1);obtain⟨k1,k5,z1,z2,_,g⟩:=hIq c;exact⟨⟨e,show n≤1000 by omega,show 1≤Int.toNat _ by omega,show Int.toNat _≤5 by omega,z1,z2,g,d⟩,rfl⟩
theorem hZm {pre post:List AskT} {a:AskT} {k:Nat} (b:a.good=true) (c:(pre.filter AskT.good).length=k):rhoOf (pre++a::post) (k+1)=a.rq (k+1):=by
 unfold rhoOf;rw[List.filter_append,List.filter_cons_of_pos b,Nat.add_sub_cancel,List.getD_eq_getElem?_getD,List.getElem?_append_right (by omega),c,Nat.sub_self];rfl
theorem hNk {fn:Func} {p:Tmp} (h:fn.results=#[.cell p 36]) (tmps:Array Value) (w:World) (g:Nat) (cs:Array Value) (e:cs.size=6)
  (d:tmps.getD p undef=.pointer (some ⟨g,0,none⟩)) (b:w.heap[g]?=some (.cells cs 36 (0,0))) :
  (results fn tmps).run Tryz.prog w=.ok (.agg cs) w:=by
 have a:tmps[p]?.getD undef=.pointer (some ⟨g,0,none⟩):=by simpa using d
 have c:=run_loadVar_row (P:=Tryz.prog) w g 36 36 cs (0,0) _ b Tryz.underlying36 rfl (by rw[e];kernel_rfl);simp[results,h,a,asAddr,c]
theorem hOg (a:AskT) (w:World) :
  Calls Tryz.prog 7 #[.agg #[.int .i64 a.cl,.int .i64 a.st,.int .i64 a.kd,.string a.key,.int .u64 (a.bits:Int),.int .i64 a.id]] w fun e w'=>e=.returned (.agg (six a.cl a.st a.kd a.key a.bits a.id))∧Below w.heap.size w w':=by
 obtain⟨cl,st,kd,key,bits,id⟩:=a;dsimp only;obtain⟨a1,a2,m,j⟩:=hAp w (.cells #[.int .i64 cl,.int .i64 st,.int .i64 kd,.string key,.int .u64 (bits:Int),.int .i64 id] 39) (.cells #[.int .i64 0,.int .i64 0,.int .i64 0,.string ⟨#[]⟩,.float .f64 0,.int .i64 0] 36);have b:=zH a1;have c:=zH a2;have l:=zH j;clear a1 a2 j;have v:=hEp;have u:=fun(w:World) (a:Addr) (k:FloatKind) (n:Nat)=>run_store Tryz.prog w a (.float k n) .plain rfl;go_enter Tryz.func7,Tryz.ntmps7;go_upto_region 1 with fail;obtain⟨g,r⟩:=zN (w.heap.size);rw[←r] at b c m ⊢;have s:=zH (show w.heap.size≤g+1 by omega);clear r;generalize World.alloc _ _=w1 at b c l m ⊢;have gl:=(zL b.o);have c0:=fun y:Bel w1.heap.size w1=>y.cell gl (zQ w1 g 0 (.int .i64 cl) b.o);have c1:=fun y:Bel w1.heap.size w1=>y.cell gl (zQ w1 g 1 (.int .i64 st) b.o);have c2:=fun y:Bel w1.heap.size w1=>y.cell gl (zQ w1 g 2 (.int .i64 kd) b.o);have c3:=fun y:Bel w1.heap.size w1=>y.cell gl (zQ w1 g 3 (.string key) b.o);have c4:=fun y:Bel w1.heap.size w1=>y.cell gl (zQ w1 g 4 (.int .u64 (bits:Int)) b.o);have c5:=fun y:Bel w1.heap.size w1=>y.cell gl (zQ w1 g 5 (.int .i64 id) b.o);refine hAi 15 w1.heap.size w1 (by kernel_rfl) (by kernel_rfl) (Below.refl _ _) ?_;simp only[List.take_succ_cons,List.take_zero,List.drop_succ_cons,List.drop_zero];repeat (go_big_quiet_step (fail))
 refine wpQuiet_nil ?_;rintro⟨wy,i⟩;show wpList _ _ _ _ _ wy;clear c0 c1 c2 c3 c4 c5;have d:=(i.block _ m).trans c.o;obtain⟨z0,z1,z2,z3,z4,z5⟩:=hAf d;have f:=fun k=>frozen_of_row _ (g+1) k _ _ d;obtain⟨s0,s1⟩:=hJv _ (g+1) _ _ #[] rfl (.int .i64 cl) (.int .i64 st) (.int .i64 kd) (.string key) (.float .f64 bits) (.int .i64 id) d;have q:=zH s0;have p:=zH ((zB l.o i).grown s1 (zB l.o i).size (fun kk t=>by have h:=Option.some.inj t;have:=s.o;omega));clear s0 s1 i d;go_wp2_with fail;exact bodyPost_ret (hNk rfl _ _ (g+1) _ rfl (by rfl) q.o) rfl ⟨rfl,p.o⟩
def Asks (w:World) (a:Option Addr) (n c:Nat) (l:List AskT):Prop:=
 l.length=n∧n≤c∧c≤maxLen∧(a=none→n=0∧c=0)∧(∀ q∈l,q.key.size≤maxLen∧q.bits<18446744073709551616)∧∀ ad,a=some ad→∃ b off,(0<n→ad=⟨b,off,none⟩∧b<w.heap.size) ∧
  ∀ i q,l[i]?=some q→w.cell? ⟨b,off+i*6,none⟩=some (.int .i64 q.cl)∧w.cell? ⟨b,off+i*6+1,none⟩=some (.int .i64 q.st)∧w.cell? ⟨b,off+i*6+2,none⟩=some (.int .i64 q.kd)∧w.cell? ⟨b,off+i*6+3,none⟩=some (.string q.key)∧w.cell? ⟨b,off+i*6+4,none⟩=some (.int .u64 (q.bits:Int))∧w.cell? ⟨b,off+i*6+5,none⟩=some (.int .i64 q.id)
theorem Asks.at {w:World} {a:Option Addr} {n c:Nat} {l:List AskT} (h:Asks w a n c l) {w':World} (e:Below w.heap.size w w') {k:Nat} {q:AskT} (f:l[k]?=some q) :
  ∃ b off,a=some ⟨b,off,none⟩∧w'.cell? ⟨b,off+k*6,none⟩=some (.int .i64 q.cl)∧w'.cell? ⟨b,off+k*6+1,none⟩=some (.int .i64 q.st)∧w'.cell? ⟨b,off+k*6+2,none⟩=some (.int .i64 q.kd)∧w'.cell? ⟨b,off+k*6+3,none⟩=some (.string q.key)∧w'.cell? ⟨b,off+k*6+4,none⟩=some (.int .u64 (q.bits:Int))∧w'.cell? ⟨b,off+k*6+5,none⟩=some (.int .i64 q.id):=by
 have j:=(List.getElem?_eq_some_iff.1 f).1;have m:=h.1;cases a with
 |none=>have:=h.2.2.2.1 rfl;omega
 |some ad=>
  obtain⟨b,off,g,i⟩:=h.2.2.2.2.2 ad rfl;obtain⟨rfl,d⟩:=g (by omega);obtain⟨k0,k1,k2,k3,k4,k5⟩:=i k q f;exact⟨b,off,rfl,(e.cell (p:=⟨b,off+k*6,none⟩) d).trans k0,(e.cell (p:=⟨b,off+k*6+1,none⟩) d).trans k1,(e.cell (p:=⟨b,off+k*6+2,none⟩) d).trans k2,(e.cell (p:=⟨b,off+k*6+3,none⟩) d).trans k3,(e.cell (p:=⟨b,off+k*6+4,none⟩) d).trans k4,(e.cell (p:=⟨b,off+k*6+5,none⟩) d).trans k5⟩
theorem hNq {W W':SWorld} (h:SW.settle W=some W'):∃ V,SW.flush W=some V∧SW.times SW.tickF (24 - 0) V=some W':=by
 unfold SW.settle at h;split at h
 ·cases h
 ·exact⟨_,‹_›,h⟩
theorem hPg {W W':SWorld} (h:SW.tickF W=some W'):∃ V,SW.tick W=some V∧SW.flush V=some W':=by
 unfold SW.tickF at h;split at h
 ·cases h
 ·exact⟨_,‹_›,h⟩
theorem hRi {o:Tags} {rho:Nat→Rq} {b:Nat} {p:WB} {W W':SWorld} (F:ROk rho) (r:SW.settle W=some W') (N:(W.reps.map (·.id)).Pairwise (· < ·)) (w:World) (h:WorldAt w o rho b p W) :
  Calls Tryz.prog 9 #[.pointer (some ⟨b,0,none⟩),.int .i64 24] w fun e w'=>e=.returned (.tuple #[])∧∃ o',WorldAt w' o' rho b p W'∧ChgW o o' w w':=by
 obtain⟨V,H,r⟩:=hNq r;have a:=hDl F H w h;unfold doC at a;have c:=zH a;have K:=zH r;have J:=zH F;have v:=zH (show(V.reps.map (·.id)).Pairwise (· < ·) by rw[(hEo H).1];exact N);clear h a r F H N;go_enter Tryz.func9,Tryz.ntmps9;go_wp2_with fail;refine c.o.mono ?_;rintro e w1 ⟨rfl,o1,B,x⟩;have m:=zH (And.intro B x);clear B x c;go_wp2_with fail;go_loopw [4] (fun j wr=>∃ k:Nat,k≤24∧j=.int .i64 k∧zI (∃ ok Wk,WorldAt wr ok rho b p Wk∧ChgW o ok w wr∧SW.times SW.tickF (24 - k) Wk=some W'∧(Wk.reps.map (·.id)).Pairwise (· < ·))) (fun j _=>24 - (intOf j).toNat)
 case atStart=>exact⟨0,by omega,rfl,zH ⟨o1,V,m.o.1,m.o.2,K.o,v.o⟩⟩
 case round=>
  obtain⟨k,P,rfl,q⟩:=hrel;obtain⟨ok,Wk,i,f,l,g⟩:=q.o;clear m K v;by_cases hk8:k<24
  ·have q1:(k:Int)<24:=by omega
   obtain⟨U,G,E⟩:=hFm hk8 l;obtain⟨V2,O,M⟩:=hPg G;have n:=hLj J.o O g wr i;unfold doC at n;have u:=zH n;have t:=zH f;have d:=zH (And.intro M (And.intro E (show(U.reps.map (·.id)).Pairwise (· < ·) by rw[(hHn G).1];exact g)));clear q i f l g G E O M n;go_wp2_with fail;refine u.o.mono ?_;rintro e w2 ⟨rfl,o2,C,y⟩;have a:=hDl J.o d.o.1 w2 C;unfold doC at a;have c:=zH a;have s:=zH (t.o.trans y);clear C y a u t;go_wp2_with fail;refine c.o.mono ?_;rintro e w3 ⟨rfl,o3,D,z⟩;have I:=zH (show ∃ ok Wk,WorldAt w3 ok rho b p Wk∧ChgW o ok w w3∧SW.times SW.tickF (24 - (k+1)) Wk=some W'∧(Wk.reps.map (·.id)).Pairwise (· < ·) from⟨o3,U,D,s.o.trans z,d.o.2.1,d.o.2.2⟩);clear D z c s d;go_wp2_with fail;exact⟨⟨k+1,by omega,by go_num,I⟩,by simp only[intOf];omega⟩
  ·have q1:¬ (k:Int)<24:=by omega
   have L:=hFn (by omega) l;subst L;have d:=zH (And.intro i f);clear q i f l g;go_wp2_with fail;go_end0;exact⟨rfl,ok,d.o.1,d.o.2⟩
theorem ChgW.end {o':Tags} {w w':World} (h:ChgW (fun _=>0) o' w w'):Below w.heap.size w w':=⟨h.os,h.tape,h.output,h.size,fun b a=>h.block b a (by decide)⟩
theorem hPq {o:Tags} {rho:Nat→Rq} {b:Nat} {p:WB} {W W':SWorld} {q:AskT} (g:ROk rho) (i:SW.ask W=some W') (f:rho (W.cli.stamp+1)=q.rq (W.cli.stamp+1)) (d:q.good=true) (w:World) (h:WorldAt w o rho b p W) :
  Calls Tryz.prog 8 #[.pointer (some ⟨b,0,none⟩),.agg (doC 5 1 q.kd q.key q.bits q.id)] w fun e w'=>e=.returned (.int .i64 0)∧∃ o',WorldAt w' o' rho b p W'∧ChgW o o' w w':=by
 obtain⟨k1,_,_,_,a,_⟩:=hIq d;refine hHo q.kd q.key q.bits q.id 0 w h (fun w1 c=>?_);have hc:=hUs g i w1 c;have e1:(((q.rq (W.cli.stamp+1)).kind:Nat):Int)=q.kd:=Int.toNat_of_nonneg (by omega);rw[f,e1] at hc;rw[a];exact hc
theorem hY3 {o:Tags} {rho:Nat→Rq} {b:Nat} {p:WB} {W:SWorld} {q:AskT} (f:W.cli.stamp≤8) (c:q.kd≤5) (g:q.key.size≤maxLen) (a:q.good=false) (w:World) (h:WorldAt w o rho b p W) :
  Calls Tryz.prog 8 #[.pointer (some ⟨b,0,none⟩),.agg (doC 5 1 q.kd q.key q.bits q.id)] w fun e w'=>e=.returned (.int .i64 1)∧∃ o',WorldAt w' o' rho b p W∧ChgW o o' w w':=by
 have d:opOk q.kd q.key q.bits q.id=false:=by
  unfold AskT.good at a;rw[decide_eq_true c,Bool.true_and] at a;exact a
 exact hHo q.kd q.key q.bits q.id 1 w h (fun w1 i=>hOa f q.kd c q.key g q.bits q.id d w1 i)
theorem hMm {w:World} {n:Nat} (h:w.heap[n]?=some (.cells #[.int .i64 0,.int .i64 1,.int .i64 2,.int .i64 3] 3 (0,0))):Mem w (some ⟨n,0,none⟩) 4:=
 ⟨Nat.le_refl _,by decide,n,0,rfl,(zL h),fun k a=>by
  obtain rfl | rfl | rfl | rfl:k=0∨k=1∨k=2∨k=3:=by omega
  all_goals exact(zR w n _ _ _ _ h).trans rfl⟩
theorem hOv:∃ W1 W2,SW.ask (SW.init [0,1,2,3])=some W1∧SW.flush W1=some W2∧W2.cli.acc=1∧∃ r,r∈W2.reps∧r.id=2∧r.d=1:=by
 have h:=lives_runs;unfold livesB at h;split at h
 ·cases h
 ·rename_i W1 b;split at h
  ·cases h
  ·rename_i W2 c;unfold SWorld.lived at h;rw[Bool.and_eq_true] at h;obtain⟨e,a⟩:=h;split at a
   ·cases a
   ·rename_i r f;obtain⟨m,hi⟩:=hFa f;exact⟨W1,W2,b,c,by simpa using e,r,m,hi,by simpa using a⟩
theorem hMg:ROk (rhoOf []):=hT9 (fun a b=>by cases b)
theorem hVp:∃ cd,resL (rhoOf []) 1=[.int .i64 cd,.float .f64 4611686018427387904]:=⟨_,rfl⟩
theorem hXd (W:World):(binOp .eql 32 (.float .f64 4611686018427387904) (.float .f64 4611686018427387904)).run Tryz.prog W=.ok (.bool true) W:=by
 kernel_rfl
theorem hUo (w:World):Calls Tryz.prog 5 #[] w fun e w'=>e=.returned (.bool true)∧Below w.heap.size w w':=by
 obtain⟨W1,W2,Y,Z,H,r,Q,P,O⟩:=hOv;have I:=(Below.refl w.heap.size w).alloc (Nat.le_refl _) (.cells #[.int .i64 0,.int .i64 1,.int .i64 2,.int .i64 3] 3);have d:=hKx (rho:=rhoOf []) (some ⟨w.heap.size,0,none⟩) 4 none 0 0 [] _ (hMm (heap_alloc_new w (.cells #[.int .i64 0,.int .i64 1,.int .i64 2,.int .i64 3] 3))) (.inl ⟨rfl,rfl,rfl,rfl⟩) rfl;rw[show idsU [] 4=[0,1,2,3] from rfl] at d;have j:=zH d;have i:=zH I;have c:=zH (And.intro Y (And.intro Z (And.intro H (And.intro Q (And.intro P O)))));clear I d Y Z H Q P O;go_enter Tryz.func5,Tryz.ntmps5;go_wp2_with fail;refine j.o.mono ?_;rintro e w2 ⟨b,p,o2,rfl,S,J,R⟩;have l:=hPq (q:=askOne) hMg c.o.1 rfl hG8 w2 S;unfold doC at l;have D:=zH (show Calls Tryz.prog 8 #[.pointer (some ⟨b,0,none⟩),.agg #[.int .i64 5,.int .i64 1,.int .i64 0,.int .i64 1,.string ⟨#[107]⟩,.float .f64 4611686018427387904,.int .i64 0,.int .i64 0,.int .i64 0,.int .i64 0,.int .i64 0,.int .i64 0,.int .i64 0,.int .i64 0,.string ⟨#[]⟩,.float .f64 0,.int .i64 0,.int .i64 0,.float .f64 0,.string ⟨#[]⟩,.slice none 0 0,.slice none 0 0,.slice none 0 0,.slice none 0 0]] w2 _ from l);have K:=zB i.o J;have v:=zH (ChgW.below (o:=fun _=>0) K (fun x hx=>R x (Nat.lt_of_lt_of_le hx i.o.size)));clear l S J R K j i;go_wp2_with fail;refine D.o.mono ?_;rintro e w3 ⟨rfl,o3,T,L⟩;have m:=hDl hMg c.o.2.1 w3 T;unfold doC at m;have E:=zH m;have y:=zH (v.o.trans L);clear T L m D v;go_wp2_with fail;refine E.o.mono ?_;rintro e w4 ⟨rfl,o4,h,M⟩;have B:=zH (y.o.trans M);have G:=zH h;have C:=zH (hGm w4 h);obtain⟨z,hz⟩:=h.cli;have t:=hOn (by rw[c.o.2.2.1];omega) w4 hz;rw[c.o.2.2.1] at t;have F:=zH t;clear h M hz t E y;go_wp2_with fail;refine C.o.mono ?_;rintro e wx ⟨rfl,rfl⟩;go_wp2_with fail;refine F.o.mono ?_;rintro e w5 ⟨⟨A,cc,rfl,n⟩,k⟩;obtain⟨g,rfl,_,_,Hf,Hg,a⟩:=hCj n (by omega);obtain⟨cd,N⟩:=hVp;rw[N] at a;have Hc:w5.cell? ⟨g,1,none⟩=some (.float .f64 4611686018427387904):=a 1 _ rfl;have u:=G.o.keep k;have s:=hLk c.o.2.2.2.1 w5 u;obtain⟨zr,U⟩:=u.reps r c.o.2.2.2.1;have f:=hV3 w5 U;rw[c.o.2.2.2.2.1] at s f;rw[c.o.2.2.2.2.2] at f;have X:=zH (show Calls Tryz.prog 17 #[.pointer (some ⟨b,0,none⟩),.int .i64 2] w5 _ from s);have W:=zH (show Calls Tryz.prog 18 #[.pointer (some ⟨p.rb 2,0,none⟩)] w5 fun e w'=>e=.returned (.int .i64 1)∧w5=w' from f);have V:=zH ((B.o.trans (ChgW.below (o':=o4) k (fun _ _=>rfl))).end);have Hh:=hXd;clear n k a N u s U f C F G B;go_wp2_with fail;refine X.o.mono ?_;rintro e wx ⟨rfl,rfl⟩;go_wp2_with fail;refine W.o.mono ?_;rintro e wx ⟨rfl,rfl⟩;go_wp2_with fail;go_ret;exact⟨rfl,V.o⟩
theorem hOt (d:Nat) (a:d<4):(SW.idsB d).Pairwise (· < ·):=by
 obtain rfl | rfl | rfl | rfl:d=0∨d=1∨d=2∨d=3:=by omega
 all_goals decide
theorem hVb (d:Nat) (a:d<4):idsU [(d:Int)] 4=SW.idsB d:=by
 obtain rfl | rfl | rfl | rfl:d=0∨d=1∨d=2∨d=3:=by omega
 all_goals rfl
theorem hWf {d m:Nat} (c:d<4) (l:m<6) {W:SWorld} (h:SW.run (SW.idsB d) m=some W):∃ V W',SW.ask W=some V∧SW.settle V=some W'∧SW.run (SW.idsB d) (m+1)=some W'∧W.cli.stamp=m∧W'.cli.acc=m+1∧(V.reps.map (·.id)).Pairwise (· < ·):=by
 obtain⟨W6,f⟩:=dead_runs d c;obtain⟨W',a⟩:=hJd SW.one (5 - m) (m+1) (W:=SW.init (SW.idsB d)) (W':=W6) (by rw[show m+1+(5 - m)=6 by omega];exact f);obtain⟨U,k,g⟩:=hIc SW.one a;obtain rfl:U=W:=by
  have b:SW.times SW.one m (SW.init (SW.idsB d))=some W:=h;rw[k] at b;exact Option.some.inj b
 obtain⟨V,e,j,_,_⟩:=hKc g;obtain⟨a1,a2,_⟩:=hGh _ _ _ h;obtain⟨_,_,b3⟩:=hGh _ _ _ a;obtain⟨_,_,_,_,i⟩:=hFy e;obtain⟨c1,_,_⟩:=hDc i;refine⟨V,W',e,j,a,a2,b3,?_⟩;rw[c1];show(U.reps.map (·.id)).Pairwise (· < ·);rw[a1];exact hOt d c
theorem hUj {l:List AskT} {k:Nat} {q:AskT} (h:l[k]?=some q):((l.take (k+1)).filter AskT.good).length=((l.take k).filter AskT.good).length+(if q.good then 1 else 0):=by
 obtain⟨a,rfl⟩:=List.getElem?_eq_some_iff.1 h;rw[List.take_succ_eq_append_getElem a,List.filter_append,List.length_append];cases hg:(l[k]).good<;>simp[hg]
theorem hWc {l:List AskT} {k m:Nat} {q:AskT} (h:l[k]?=some q) (b:q.good=true) (d:((l.take k).filter AskT.good).length=m):rhoOf l (m+1)=q.rq (m+1):=by
 obtain⟨c,rfl⟩:=List.getElem?_eq_some_iff.1 h;have e:l=l.take k++l[k]::l.drop (k+1):=by
  rw[←List.drop_eq_getElem_cons c,List.take_append_drop]
 have a:=hZm (pre:=l.take k) (post:=l.drop (k+1)) b d;rw[←e] at a;exact a
theorem hVw (cl st kd:Int) (key:ByteArray) (bits:Nat) (id:Int) (W:World):(Instr.field 36 (.agg #[.int .i64 cl,.int .i64 st,.int .i64 kd,.string key,.float .f64 bits,.int .i64 id]) 2).run Tryz.prog W=.ok (.agg #[.int .i64 kd,.string key,.float .f64 bits,.int .i64 id]) W:=by
 rfl
theorem hW9 (d:Int):∃ dd:Nat,dd<4∧wrap64 ((IntKind.u64.wrap d).tmod 4)=(dd:Int):=by
 have a:0≤IntKind.u64.wrap d:=by rw[IntKind.wrap_u64];omega
 have b:=Int.emod_nonneg (IntKind.u64.wrap d) (show(4:Int)≠0 by omega);have c:=Int.emod_lt_of_pos (IntKind.u64.wrap d) (show(0:Int)<4 by omega);refine⟨(IntKind.u64.wrap d % 4).toNat,by omega,?_⟩;rw[Int.tmod_eq_emod_of_nonneg a];generalize IntKind.u64.wrap d % 4=x at b c ⊢;unfold wrap64;omega
theorem hWp (d:Int) (A:Option Addr) (n c:Nat) (l:List AskT) (w:World) (F:Asks w A n c l) :
  Calls Tryz.prog 3 #[.int .i64 d,.slice A n c] w fun e w'=>e=.returned (.bool true)∧Below w.heap.size w w':=by
 have HR:=zH (hT9 (l:=l) (fun a ha=>(F.2.2.2.2.1 a ha).2));have qn:(n:Int)≤9223372036854775807:=by
  have h1:=F.2.1;have h2:=F.2.2.1;unfold maxLen at h2;omega
 have qc:(c:Int)≤9223372036854775807:=by
  have h2:=F.2.2.1;unfold maxLen at h2;omega
 have qnc:(n:Int)≤(c:Int):=by
  have h1:=F.2.1;omega
 have HA:=zH F;have Hm:=zH (hUo w);clear F;go_enter Tryz.func3,Tryz.ntmps3;go_wp2_with fail;refine Hm.o.mono ?_;rintro e w1 ⟨rfl,Hy⟩;have Hh:=zH Hy;clear Hy Hm;go_upto_region 4 with fail;obtain⟨dd,X,hx⟩:=hW9 d;simp only[hx];clear hx;obtain⟨a1,a2,hz,HJ⟩:=hAp w1 (.cells #[.int .i64 0,.int .i64 1,.int .i64 2,.int .i64 3] 3) (.cells #[.int .i64 dd] 3);have G:=hKx (rho:=rhoOf l) (some ⟨w1.heap.size,0,none⟩) 4 (some ⟨w1.heap.size+1,0,none⟩) 1 1 [(dd:Int)] _ (hMm a1) (.inr ⟨rfl,w1.heap.size+1,(dd:Int),rfl,rfl,hz,(zR _ _ _ _ _ _ a2).trans rfl⟩) (by
  obtain rfl | rfl | rfl | rfl:dd=0∨dd=1∨dd=2∨dd=3:=by omega
  all_goals rfl)
 rw[hVb dd X] at G;have S:=zH G;have R:=zH (zB Hh.o HJ);have ak:=zH X;clear a1 a2 hz HJ G X Hh;go_wp2_with fail;refine S.o.mono ?_;rintro e w2 ⟨b,p,o2,rfl,ae,Hz,ab⟩;have Hi:=zH (ChgW.below (o:=fun _=>0) (zB R.o Hz) (fun x hx=>ab x (Nat.lt_of_lt_of_le hx R.o.size)));have Hr:=zH ae;clear ae Hz ab S R;go_wp2_with fail;go_loopw [7,8] (fun s7 s8 wr=>∃ k m:Nat,k≤n∧m≤6∧s7=.int .i64 m∧s8=.int .i64 k∧zI (((l.take k).filter AskT.good).length=m∧∃ ok Wk,WorldAt wr ok (rhoOf l) b p Wk∧ChgW (fun _=>0) ok w wr∧SW.run (SW.idsB dd) m=some Wk)) (fun _ s8 _=>n - (intOf s8).toNat)
 case atStart=>exact⟨0,0,by omega,by omega,rfl,rfl,zH ⟨rfl,o2,_,Hr.o,Hi.o,rfl⟩⟩
 case round=>
  obtain⟨k,m,hk,hm,rfl,rfl,L⟩:=hrel;obtain⟨I,ok,Wk,N,i,J⟩:=L.o;clear Hr Hi;by_cases hkn:k<n
  ·have q1:(k:Int)<(n:Int):=by omega
   have q0:(0:Int)≤(k:Int):=by omega
   by_cases hm6:m<6
   ·have q2:(m:Int)<6:=by omega
    have q3:(0:Int)≤(m:Int):=by omega
    obtain⟨q,hq⟩:∃ q,l[k]?=some q:=⟨_,List.getElem?_eq_getElem (by rw[HA.o.1];exact hkn)⟩;obtain⟨B,off,Hu,c0,c1,c2,c3,c4,c5⟩:=HA.o.at i.end hq;have av:=zH Hu;have Ha:=hOg q wr;unfold six at Ha;have Hp:=zH Ha;have f:=zH (And.intro I (And.intro N (And.intro i J)));have O:=zH hq;subst Hu;clear L I N i J hq Ha;go_wp2_with fail;refine Hp.o.mono ?_;rintro e w3 ⟨rfl,T⟩;have Hx:=(Below.refl w3.heap.size w3).alloc (Nat.le_refl _) (.cells #[.int .i64 q.kd,.string q.key,.float .f64 q.bits,.int .i64 q.id] 34);have hJ:=heap_alloc_new w3 (.cells #[.int .i64 q.kd,.string q.key,.float .f64 q.bits,.int .i64 q.id] 34);have H:=zH (T.trans (Hx.mono T.size));have h:=zH hJ;clear c0 c1 c2 c3 c4 c5 T Hx hJ Hp;have ao:=hVw;have ap:=fun(w:World) (a:Addr) (k:FloatKind) (n:Nat)=>run_store Tryz.prog w a (.float k n) .plain rfl;go_upto_region 12 with fail;clear ao ap;obtain⟨g,r⟩:=zN (w3.heap.size);rw[←r] at h ⊢;clear r;generalize w3.alloc _=w4 at H h ⊢;have o0:=zQ w4 g 0 (.int .i64 q.kd) h.o;have o1:=zQ w4 g 1 (.string q.key) h.o;have o2':=zQ w4 g 2 (.float .f64 q.bits) h.o;have o3:=zQ w4 g 3 (.int .i64 q.id) h.o;have u:=zH (f.o.2.1.keep H.o);have s:=zH (f.o.2.2.1.trans (ChgW.below (o':=ok) H.o (fun _ _=>rfl)));have t:=zH (hUj O.o);clear h H;rcases Int.lt_or_le 5 q.kd with hk5 | hk5
    ·have hO:q.good=false:=by unfold AskT.good;rw[decide_eq_false (by omega),Bool.false_and]
     have C:=zH (show((l.take (k+1)).filter AskT.good).length=m∧∃ ok Wk,WorldAt w4 ok (rhoOf l) b p Wk∧ChgW (fun _=>0) ok w w4∧SW.run (SW.idsB dd) m=some Wk from⟨by rw[t.o,hO,f.o.1];rfl,ok,Wk,u.o,s.o,f.o.2.2.2⟩);clear hO f O u s t;go_wp2_with fail;exact⟨⟨k+1,m,by omega,hm,rfl,by go_num,C⟩,by simp only[intOf];omega⟩
    ·have q5:¬ 5<q.kd:=by omega
     cases r:q.good with
     |false=>
      have hU:Wk.cli.stamp≤8:=by rw[(hGh _ _ _ f.o.2.2.2).2.1];omega
      have Y:q∈l:=List.mem_of_getElem? O.o;have j:=hY3 hU hk5 (HA.o.2.2.2.2.1 q Y).1 r w4 u.o;unfold doC at j;have y:=zH j;have v:=zH (show((l.take (k+1)).filter AskT.good).length=m from by rw[t.o,r,f.o.1];rfl);clear r hU Y j t u;go_wp2_with fail;refine y.o.mono ?_;rintro e w5 ⟨rfl,o5,E,D⟩;have C:=zH (show((l.take (k+1)).filter AskT.good).length=m∧∃ ok Wk,WorldAt w5 ok (rhoOf l) b p Wk∧ChgW (fun _=>0) ok w w5∧SW.run (SW.idsB dd) m=some Wk from⟨v.o,o5,Wk,E,s.o.trans D,f.o.2.2.2⟩);clear E D o0 o1 o2' o3 y f O s;go_wp2_with fail;exact⟨⟨k+1,m,by omega,hm,rfl,by go_num,C⟩,by simp only[intOf];omega⟩
     |true=>
      obtain⟨V,W',hv,aa,Hb,Hc,Hw,K⟩:=hWf ak.o hm6 f.o.2.2.2;have Z:=hWc O.o r f.o.1;have j:=hPq HR.o hv (by rw[Hc];exact Z) r w4 u.o;unfold doC at j;have y:=zH j;have v:=zH (show((l.take (k+1)).filter AskT.good).length=m+1 from by rw[t.o,r,f.o.1];rfl);have P:=zH (And.intro aa (And.intro Hb (And.intro Hw K)));clear r hv aa Hb Hc Hw K Z j t u f O;go_wp2_with fail;refine y.o.mono ?_;rintro e w5 ⟨rfl,o5,E,D⟩;have Hq:=zH (hRi HR.o P.o.1 P.o.2.2.2 w5 E);have Hj:=zH (s.o.trans D);clear E D o0 o1 o2' o3 y s;go_wp2_with fail;refine Hq.o.mono ?_;rintro e w6 ⟨rfl,o6,M,hI⟩;have Hl:=zH (hGm w6 M);obtain⟨z,hz⟩:=M.cli;have W:=hLz (by rw[P.o.2.2.1];omega) w6 hz;rw[P.o.2.2.1] at W;have Q:=zH W;have Ht:=zH M;have Hk:=zH (Hj.o.trans hI);clear M hI hz W Hq Hj;go_wp2_with fail;refine Hl.o.mono ?_;rintro e wx ⟨rfl,rfl⟩;go_wp2_with fail;refine Q.o.mono ?_;rintro e w7 ⟨⟨A7,c7,rfl⟩,U⟩;have C:=zH (show((l.take (k+1)).filter AskT.good).length=m+1∧∃ ok Wk,WorldAt w7 ok (rhoOf l) b p Wk∧ChgW (fun _=>0) ok w w7∧SW.run (SW.idsB dd) (m+1)=some Wk from⟨v.o,o6,W',Ht.o.keep U,Hk.o.trans (ChgW.below (o':=o6) U (fun _ _=>rfl)),P.o.2.1⟩);clear U Hl Q Ht Hk v P;go_wp2_with fail;exact⟨⟨k+1,m+1,by omega,by omega,by go_num,by go_num,C⟩,by simp only[intOf];omega⟩
   ·have q2:¬ (m:Int)<6:=by omega
    have HF:=zH i.end;clear L I N i J;go_wp2_with fail;go_ret;exact⟨rfl,HF.o⟩
  ·have q1:¬ (k:Int)<(n:Int):=by omega
   have HF:=zH i.end;clear L I N i J;go_wp2_with fail;go_ret;exact⟨rfl,HF.o⟩
end Go.Proofs.YtlibpcllceepkaaGreat
