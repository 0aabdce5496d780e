/- Joined texts of the claim. No condition. -/
import Derived.Test.YtlibpcllceepkaaGreatB21
import Derived.Test.YtlibpcllceepkaaGreatB19
import Derived.Test.YtlibpcllceepkaaGreatB11
namespace Go.Proofs.YtlibpcllceepkaaGreat
open Go.RowKit
set_option maxRecDepth 100000
set_option linter.unusedVariables false
set_option linter.unusedSimpArgs false
set_option maxHeartbeats 16000000
theorem setRow {w:World} {b:Nat} {cs:Array Value} {T:TypeId} (h:w.heap[b]?=some (.cells cs T (0,0))) (k:Nat) (v:Value) (cs':Array Value) (e:cs.setIfInBounds k v=cs'):(w.setCell ⟨b,k,none⟩ v).heap[b]?=some (.cells cs' T (0,0)):=by
 rw[←e];exact heap_setCell_same w b k _ _ _ h
theorem setBel {B:Nat} {w0 w:World} {b k:Nat} {v:Value} (h:Below B w0 w) (a:B≤b) (c:B≤w.heap.size):Below B w0 (w.setCell ⟨b,k,none⟩ v):=
 h.trans (hAj (hAb (hAa (Below.refl _ _) _) (p:=⟨b,k,none⟩) (.inl rfl) _:w.grownBy (w.setCell ⟨b,k,none⟩ v) (some b)) c a)
theorem setOld {w:World} {b k x:Nat} {v:Value} {o:Obj} (h:w.heap[x]?=some o) (a:x≠b):(w.setCell ⟨b,k,none⟩ v).heap[x]?=some o:=
 ((hAb (hAa (Below.refl _ _) _) (p:=⟨b,k,none⟩) (.inl rfl) _:w.grownBy (w.setCell ⟨b,k,none⟩ v) (some b)).block x (zL h) (fun e=>a (Option.some.inj e))).trans h
theorem setSize (w:World) (b k:Nat) (v:Value):(w.setCell ⟨b,k,none⟩ v).heap.size=w.heap.size:=by simp[World.setCell]
theorem hUe {w0 w:World} {g:Nat} {T:TypeId} {z0 z1 z2 z3 z4:Value} (h:Below w0.heap.size w0 w) (f:w0.heap.size≤g) (j:w.heap[g]?=some (.cells #[z0,z1,z2,z3,z4] T (0,0))) (a b c d e:Value) :
  Below w0.heap.size w0 (((((w.setCell ⟨g,0,none⟩ a).setCell ⟨g,1,none⟩ b).setCell ⟨g,2,none⟩ c).setCell ⟨g,3,none⟩ d).setCell ⟨g,4,none⟩ e)∧w0.heap.size≤g∧(((((w.setCell ⟨g,0,none⟩ a).setCell ⟨g,1,none⟩ b).setCell ⟨g,2,none⟩ c).setCell ⟨g,3,none⟩ d).setCell ⟨g,4,none⟩ e).heap[g]?=some (.cells #[a,b,c,d,e] T (0,0)):=by
 have i:=h.size;refine⟨?_,f,setRow (setRow (setRow (setRow (setRow j 0 a _ rfl) 1 b _ rfl) 2 c _ rfl) 3 d _ rfl) 4 e _ rfl⟩;refine setBel (setBel (setBel (setBel (setBel h f i) f ?_) f ?_) f ?_) f ?_<;>simp only[setSize]<;>exact i
theorem hZn {w:World} {g:Nat} {T:TypeId} {z0 z1 z2 z3 z4:Value} (a:w.heap[g]?=some (.cells #[z0,z1,z2,z3,z4] T (0,0))) (d e:Value) :
  w.grownBy ((w.setCell ⟨g,3,none⟩ d).setCell ⟨g,4,none⟩ e) (some g)∧((w.setCell ⟨g,3,none⟩ d).setCell ⟨g,4,none⟩ e).heap[g]?=some (.cells #[z0,z1,z2,d,e] T (0,0)):=
 ⟨(hAb (hAa (Below.refl _ _) _) (p:=⟨g,3,none⟩) (.inl rfl) _:w.grownBy (w.setCell ⟨g,3,none⟩ d) (some g)).trans (hAb (hAa (Below.refl _ _) _) (p:=⟨g,4,none⟩) (.inl rfl) _),setRow (setRow a 3 d _ rfl) 4 e _ rfl⟩
theorem hWs (f:Nat) (a:f≤1):waitN f≤512:=by
 obtain rfl | rfl:f=0∨f=1:=by omega
 all_goals decide
theorem hHj (r:SRep):r.start.log=r.log∧r.start.id=r.id:=by
 unfold SRep.start;split<;>exact⟨rfl,rfl⟩
theorem hGf {o:Tags} {rho:Nat→Rq} {b:Nat} {z:RB} {r:SRep} {be m:Nat} (w:World) (h:RepF w o rho b z r be m) :
  Calls Tryz.prog 234 #[.pointer (some ⟨z.tm,0,none⟩),.int .i64 r.now] w fun e w'=>e=.returned (.tuple #[])∧RepF w' o rho b z r.start be m∧ChgR (r.id+1) o o w w':=by
 have a:=h.tim.1;have c:=h.num.fails;have g:=h.num.now;have i:=hWs r.fails c;unfold SRep.start;cases hr:r.running
 ·rw[hr] at a;refine(hNw z.tm r.fails (by omega) r.tend r.now (by omega) w a).mono ?_;rintro e w' ⟨rfl,d,f⟩;exact⟨rfl,hCz h d f c (show r.now+waitN r.fails≤10000 by omega)⟩
 ·rw[hr] at a;refine(hUh z.tm r.fails r.tend r.now w a).mono ?_;rintro e w' ⟨rfl,rfl⟩;exact⟨rfl,h,ChgR.refl _ _ _⟩
theorem hNu (q:Rq) (u:q.Ok) (o:Tags) (A:Option Addr) (c:Nat) (w:World) (x:SlD encS w o A 1 c [(101,q.t)]) :
  Calls Tryz.prog 242 #[.agg q.v,.slice A 1 c] w fun e w'=>e=.returned (.bool true)∧Below w.heap.size w w':=by
 obtain⟨sb,so,rfl,d,_,a⟩:=x.at 2 hBf (0,ByteArray.empty) (by omega);have s0:=a 0 0 _ (by omega) (by omega) rfl;have s1:=a 0 1 _ (by omega) (by omega) rfl;have m:=(Below.refl w.heap.size w).alloc (Nat.le_refl _) (.cells q.v 36);have r:=heap_alloc_new w (.cells q.v 36);have k:=zH m;have n:=zH r;have g:=fun w=>zH (hDk q u w);have f:=zH d;have s:=zH s0;have l:=zH s1;obtain⟨z0,z1,z2,z3,z4,z5⟩:=hBz r;obtain⟨t,z⟩:=zN (q.t);rw[←z] at g l;clear x a m r d s0 s1 u z;unfold Rq.v at g k n ⊢;go_enter Tryz.func242,Tryz.ntmps242;go_wp2_with fail;refine(g _).o.mono ?_;rintro e w2 ⟨rfl,j⟩;have b:=zH (zB k.o j);have i:=(j.block _ (zL n.o)).trans n.o;have gl:=(zL i);have d:=Nat.lt_of_lt_of_le f.o b.o.size;have v0:w2.cell? ⟨sb,so,none⟩=_:=(b.o.cell (p:=⟨sb,so+(0*2+0),none⟩) f.o).trans s.o;have v1:w2.cell? ⟨sb,so+1,none⟩=_:=(b.o.cell (p:=⟨sb,so+(0*2+1),none⟩) f.o).trans l.o;have y0:=(zR _ w.heap.size 0 _ _ _ i).trans (show _=some (Value.int .i64 1) from rfl);clear z0 z1 z2 z3 z4 z5 j i;have u0:=fun y:Bel w2.heap.size w2=>y.cell d v0;have u1:=fun y:Bel w2.heap.size w2=>y.cell d v1;have x0:=fun y:Bel w2.heap.size w2=>y.cell gl y0;clear v0 v1 y0;go_wp2_with fail;refine hAg w2.heap.size w2 (by kernel_rfl) (by kernel_rfl) (Below.refl _ _) ?_;repeat (go_big_quiet_step (fail))
 refine wpQuiet_nil ?_;rintro _ ⟨y,rfl⟩;go_wp2_with fail;go_ret;exact⟨rfl,b.o.trans (y.h.mono b.o.size)⟩
def setsW (g:Nat):List (Nat×Value)→World→World
 |[],w=>w
 |p::l,w=>setsW g l (w.setCell ⟨g,p.1,none⟩ p.2)
def setsC:List (Nat×Value)→Array Value→Array Value
 |[],c=>c
 |p::l,c=>setsC l (c.setIfInBounds p.1 p.2)
theorem hAt (g:Nat) (T:TypeId):∀ (l:List (Nat×Value)) (w0 w:World) (cs:Array Value),w.heap[g]?=some (.cells cs T (0,0))→w0.heap.size≤g→Below w0.heap.size w0 w →
  (setsW g l w).heap[g]?=some (.cells (setsC l cs) T (0,0))∧Below w0.heap.size w0 (setsW g l w)∧∀ x o,x≠g→w.heap[x]?=some o→(setsW g l w).heap[x]?=some o
 |[],_,_,_,h,_,hb=>⟨h,hb,fun _ _ _ h=>h⟩
 |p::l,w0,w,cs,h,hg,hb=>by
  obtain⟨b,c,d⟩:=hAt g T l w0 (w.setCell ⟨g,p.1,none⟩ p.2) _ (setRow h p.1 p.2 _ rfl) hg (setBel hb hg hb.size);exact⟨b,c,fun x o a e=>d x o a (setOld e a)⟩
theorem hZx:∃ Z:Array Value,Z.size=76∧∀ w:World,(Instr.makeSlice 123 (.int .i64 0) (.int .i64 4)).run Tryz.prog w=.ok (.slice (some ⟨w.heap.size,0,none⟩) 0 4) (w.alloc (.cells Z 92)):=by
 obtain⟨i0,a,b,c,d⟩:=info_parts hD0;refine⟨madeCells (Value.cells (.agg zeroPk.toArray)) (4*i0.size),?_,fun w=>?_⟩
 ·rw[c];simp[madeCells]
 ·exact run_make (P:=Tryz.prog) w 123 92 i0 _ Tryz.underlying123 a b .i64 .i64 0 4 (by omega) (by omega) (by rw[d];omega) (by omega)
noncomputable def toFour (rho:Nat→Rq) (x:SMsg):List PkT:=[(101,0,x.fm rho),(101,1,x.fm rho),(101,2,x.fm rho),(101,3,x.fm rho)]
theorem hZu (rho:Nat→Rq) (x:SMsg) (k:Nat) (a:k<4):(toFour rho x).take (k+1)=(toFour rho x).take k++[(101,k,x.fm rho)]:=by
 obtain rfl | rfl | rfl | rfl:k=0∨k=1∨k=2∨k=3:=by omega
 all_goals rfl
def rowsM (M:List Value):Nat→List Value
 |0=>[]
 |k+1=>rowsM M k++(.int .i64 101::.int .i64 k::M)
theorem hWd {w:World} {o:Tags} {rho:Nat→Rq} {x:SMsg} {zz:Sls} {M:List Value} (a:M=((x.fm rho).cells zz).toList) (h:(x.fm rho).At w o zz):Lst (PkV w o) (toFour rho x) (rowsM M 4):=by
 have k:∀ i:Nat,PkV w o (101,i,x.fm rho) (.int .i64 101::.int .i64 i::M):=fun i=>⟨zz,by rw[a];rfl,h⟩;exact Lst.app (l:=[_,_,_]) (Lst.app (l:=[_,_]) (Lst.app (l:=[_]) (Lst.app (l:=[]) rfl (Lst.one (k 0))) (Lst.one (k 1))) (Lst.one (k 2))) (Lst.one (k 3))
theorem hGa {w:World} {base b:Nat} {e:TypeId} {k:Nat} {v:Value} {n:Nat} {xs:List Value} (h:w.ownsRow base e k v n xs) (f:b≤base):w.ownsRow b e k v n xs:=by
 refine⟨h.1,?_⟩;rcases h.2 with a | ⟨g,cap,cur,a,d,c⟩
 ·exact .inl a
 ·exact .inr ⟨g,cap,cur,a,Nat.le_trans f d,c⟩
theorem hE9 {o:Tags} {rho:Nat→Rq} {b:Nat} {z:CB} {c:SCli} (x:SMsg) (zz:Sls) (w:World) (h:CliAt w o rho b z c) (ha:(x.fm rho).At w o zz) :
  Calls Tryz.prog 110 #[.pointer (some ⟨b,0,none⟩),.agg ((x.fm rho).cells zz)] w fun e w'=>∃ A cc xs,e=.returned (.slice A 4 cc)∧w'.ownsRow w.heap.size 92 19 (.slice A 4 cc) 4 xs∧Lst (PkV w' o) (toFour rho x) xs∧Below w.heap.size w w':=by
 obtain⟨i0,U,Hw,Hx,Hy⟩:=info_parts hD0;have ag:=zH U;have ah:=zH Hw;have ai:=zH Hx;have aj:=zH Hy;clear U Hw Hx Hy;have au:(chainL c.chain).length≤1:=by cases c.chain<;>simp[chainL]
 have C:=(Below.refl w.heap.size w).alloc (Nat.le_refl _) (.cells ((x.fm rho).cells zz) 48);have B:=zH C;have G:=zH (heap_alloc_new w (.cells ((x.fm rho).cells zz) 48));have Hg:=zH (FM.one (x.fm rho) zz);have HA:=zH (ha.fix (P:=fun _=>True) (Fix.same (o:=o) C) trivial);have r:=zH (h.keep C);obtain⟨M,O⟩:=zN (((x.fm rho).cells zz).toList);have q:zI (M.length=17):=zH (by rw[O];rfl);have Hm:(x.fm rho).cells zz=M.toArray:=by rw[O]
 rw[←O] at Hg;have HM:=zH O;rw[Hm] at B G r HA ⊢;clear h ha O Hm C;go_enter Tryz.func110,Tryz.ntmps110;go_wp2_with fail;obtain⟨g,hg⟩:=zN (w.heap.size);rw[←hg] at G ⊢;have HG:=zH hg;clear hg;generalize w.alloc _=w1 at B G r HA ⊢;obtain⟨n,Y⟩:=zN ((chainL c.chain).length);have J:=fun(W:World) (f:Below w1.heap.size w1 W)=>zH (show Calls Tryz.prog 143 #[.pointer (some ⟨z.ch,0,none⟩)] W fun e w'=>e=.returned (.int .i64 n)∧W=w' from by rw[Y];exact hId z.ch _ (tg 4 3) o W (r.o.keep f).ch);have N:=fun(W:World) (f:Below w1.heap.size w1 W)=>zH (hWu z.ch (chainL c.chain) n (by omega) (by omega) (tg 4 3) o W (r.o.keep f).ch);have E:Below w1.heap.size w1 w1.drew:=Below.drew (Below.refl _ _);have s:=(Below.refl w1.heap.size w1).alloc (Nat.le_refl _) (.cells #[.int .i64 0,.slice none 0 0] 31);have i:=Below.drew s;have Hk:=J _ E;have Hl:=J _ i;have Hi:=N _ E;have Hj:=N _ i;have Hb:=zH E;have H:=zH i;have x1:w1.cell? ⟨b,1,none⟩=some (.pointer (some ⟨z.ch,0,none⟩)):=r.o.cell 1 rfl;have x2:(w1.alloc (.cells #[.int .i64 0,.slice none 0 0] 31)).cell? ⟨b,1,none⟩=some (.pointer (some ⟨z.ch,0,none⟩)):=(r.o.keep s).cell 1 rfl;clear E s i J N Y;have Hc:=zH (show ∀ (w9:World) (A:Option Addr) (cc:Nat),Below w1.heap.size w1 w9→Mem w9 A cc→∀ g2 wx,g2=w9.heap.size→wx=w9.alloc (.cells #[.int .i64 n,.slice A 4 cc] 31)→∃ A cc,Below w1.heap.size w1 wx∧wx.heap[g2]?=some (.cells #[.int .i64 n,.slice A 4 cc] 31 (0,0))∧Mem wx A cc from by
  rintro w9 A cc X hm g2 wx rfl rfl;exact⟨A,cc,X.alloc X.size _,heap_alloc_new _ _,hm.keep ((Below.refl w9.heap.size w9).alloc (Nat.le_refl _) _)⟩)
 have Hf:=zH (show ∀ (w9:World) (A:Option Addr) (cc:Nat),Below w1.heap.size w1 w9→w9.heap[w1.heap.size]?=some (.cells #[.int .i64 0,.slice none 0 0] 31 (0,0))→MemN w9 (w1.heap.size+1) A cc→∀ wx,wx=(w9.setCell ⟨w1.heap.size,0,none⟩ (.int .i64 n)).setCell ⟨w1.heap.size,1,none⟩ (.slice A 4 cc)→∃ A cc,Below w1.heap.size w1 wx∧wx.heap[w1.heap.size]?=some (.cells #[.int .i64 n,.slice A 4 cc] 31 (0,0))∧Mem wx A cc from by
  rintro w9 A cc X Y hm wx rfl;obtain⟨h1,h2,_⟩:=hAt w1.heap.size _ [(0,.int .i64 n),(1,.slice A 4 cc)] w1 w9 _ Y (Nat.le_refl _) X;refine⟨A,cc,h2,h1,?_⟩;have g1:w9.grownBy (w9.setCell ⟨w1.heap.size,0,none⟩ (.int .i64 n)) (some w1.heap.size):=hAb (hAa (Below.refl _ _) _) (p:=⟨w1.heap.size,0,none⟩) (.inl rfl) _;have g2:(w9.setCell ⟨w1.heap.size,0,none⟩ (.int .i64 n)).grownBy ((w9.setCell ⟨w1.heap.size,0,none⟩ (.int .i64 n)).setCell ⟨w1.heap.size,1,none⟩ (.slice A 4 cc)) (some w1.heap.size):=hAb (hAa (Below.refl _ _) _) (p:=⟨w1.heap.size,1,none⟩) (.inl rfl) _;exact((hm.grown g1 (by omega)).grown g2 (by omega)).1)
 go_cut [5,6] from 10 (fun s5 s6 wx=>s6=.bool true∧∃ g2,s5=.pointer (some ⟨g2,0,none⟩)∧zI (∃ A cc,Below w1.heap.size w1 wx∧wx.heap[g2]?=some (.cells #[.int .i64 n,.slice A 4 cc] 31 (0,0))∧Mem wx A cc))
 case first=>
  go_region_law (first
   |(go_simp;go_at_call 143;refine Hk.o.mono ?_;rintro e wx ⟨rfl,rfl⟩)
   |(go_simp;go_at_call 143;refine Hl.o.mono ?_;rintro e wx ⟨rfl,rfl⟩)
   |(go_simp;go_at_call 142;refine Hi.o.mono ?_;rintro e w9 ⟨⟨A,cc,rfl,V⟩,D⟩;have L:=zH V;have I:=zH (zB Hb.o D))
   |(go_simp;go_at_call 142;refine Hj.o.mono ?_;rintro e w9 ⟨⟨A,cc,rfl,V⟩,D⟩;have L:=zH V;have I:=zH (zB H.o D);have F:=(D.block w1.heap.size (by simp)).trans (heap_alloc_new w1 (.cells #[.int .i64 0,.slice none 0 0] 31));have n0:=zR _ _ 0 _ _ _ F;have n1:=zR _ _ 1 _ _ _ F;have nf:=fun k=>frozen_of_row _ _ k _ _ F;simp at n0 n1))
  all_goals
   go_wp2_with fail;go_meet
   case rel=>first
    |exact⟨rfl,_,rfl,zH (Hc.o _ _ _ I.o L.o.1 _ _ (by with_reducible rfl) (by with_reducible rfl))⟩
    |exact⟨rfl,_,rfl,zH (Hf.o _ _ _ I.o F (by have h:=L.o;simpa using h) _ (by with_reducible rfl))⟩
 case rest=>
  obtain⟨rfl,g2,rfl,d⟩:=hcut;obtain⟨A,cc,Q,R,ao⟩:=d.o;obtain⟨Z,hZ,ap⟩:=hZx;have l:=zH Q;have ab:=zH (r.o.keep Q);have e1:=zQ _ g2 1 (.slice A 4 cc) R;have T:=(zL R);have t:=(Below.refl wc.heap.size wc).alloc (Nat.le_refl _) (.cells Z 92);have e2:=(t.cell (p:=⟨g2,1,none⟩) T).trans e1;obtain⟨_,av,mb,off,rfl,Ht,Hu⟩:=ao;have Hh:=zH (And.intro Ht Hu);have hU:zI (∀ W,Below wc.heap.size wc W→W.heap[g]?=some (.cells M.toArray 48 (0,0))):=zH (fun W f=>(f.block g (Nat.lt_of_lt_of_le (zL G.o) l.o.size)).trans ((l.o.block g (zL G.o)).trans G.o));have aa:=fun(W:World) (f:Below wc.heap.size wc W)=>zH (hHs W (ab.o.keep f));have HJ:=zH t;have hI:zI ((wc.alloc (.cells Z 92)).ownsRow wc.heap.size 92 19 (.slice (some ⟨wc.heap.size,0,none⟩) 0 4) 0 (rowsM M 0)):=zH ⟨rfl,.inr ⟨wc.heap.size,4,Z,rfl,Nat.le_refl _,heap_alloc_new wc _,by omega,by unfold maxLen;omega,by rw[hZ],by simp[rowsM]⟩⟩;clear d Q R T t Ht Hu x1 x2 Hk Hl Hi Hj Hc Hf Hb H;go_wp2_with fail;clear ap;go_loopw [7,30] (fun s7 j wr=>∃ (k:Nat) (A':Option Addr) (c':Nat),k≤4∧s7=.slice A' k c'∧j=.int .i64 k∧zI (wr.ownsRow wc.heap.size 92 19 (.slice A' k c') k (rowsM M k)∧Below wc.heap.size wc wr)) (fun _ j _=>4 - (intOf j).toNat)
  case atStart=>exact⟨0,_,_,by omega,rfl,rfl,zH ⟨hI.o,HJ.o⟩⟩
  case round=>
   obtain⟨k,A',c',hk,rfl,rfl,d⟩:=hrel;have q0:(0:Int)≤(k:Int):=by omega
   by_cases hk4:k<4
   ·have q1:(k:Int)<4:=by omega
    have v0:=(d.o.2.cell (p:=⟨mb,off+k,none⟩) Hh.o.1).trans (Hh.o.2 k hk4);have u:wr.drew.ownsRow wc.heap.size 92 19 (.slice A' k c') k (rowsM M k):=d.o.1;have Hp:Below wc.heap.size wc wr.drew:=Below.drew d.o.2;clear d;go_wp2_with fail;refine wp_region_held_drew (S:=(fun W=>Below wc.heap.size wc W)) (by kernel_rfl) Hp (fun a=>?_);change wpAnyH _ _ _ _ _ 9 (Array.replicate 9 false) _ _;clear Hp v0;generalize wr.drew=w2 at u a ⊢
    (refine zT 0 34 rfl rfl (v:=?v34_1) (.inl ⟨by rfl,?y34_1⟩) ?_;case y34_1=>(intro w m;(try dsimp only at m);go_simp;try with_reducible rfl));try dsimp only;try simp only[zA,zC,zD]
    (refine zT 1 35 rfl rfl (v:=?v35_2) (.inl ⟨by rfl,?y35_2⟩) ?_;case y35_2=>(intro w m;(try dsimp only at m);go_simp;try with_reducible rfl));try dsimp only;try simp only[zA,zC,zD]
    (refine zT 3 37 rfl rfl (v:=?v37_3) (.inl ⟨by rfl,?y37_3⟩) ?_;case y37_3=>(intro w m;(try dsimp only at m);go_simp;try with_reducible rfl));try dsimp only;try simp only[zA,zC,zD]
    (refine zT 4 38 rfl rfl (yieldsIf_load_mid (by rfl) 48 (.tmp 3) (by rfl) g 0 (by rfl) M _ (fun W f=>hEw (hU.o W f)) Tryz.underlying48 rfl (hBp M q.o)) ?_);(try dsimp only);simp only[zA,zC,zD];refine wpAnyH_ready (rs:=[2]) (by kernel_rfl) (by simp) ?_;refine AllReadyH.cons rfl (fun K hK=>?_) AllReadyH.nil;rw[if_pos (by rfl)];go_simp;go_at_call 111;refine(aa _ a).o.mono ?_;rintro e wd ⟨rfl,rfl⟩;refine hK.out _ _ a (fun _=>?_);try dsimp only
    clear hK K
    (refine zT 5 39 rfl rfl (hHq (by rfl) (.tmp 36) (.tmp 37) (.tmp 38) (by rfl) M q.o 101 (k:Int) (by rfl) (by rfl) (by rfl)) ?_);(try dsimp only);simp only[zA,zC,zD];refine hRu 6 7 8 40 41 7 rfl rfl rfl (by kernel_rfl) (by kernel_rfl) (by kernel_rfl) (by kernel_rfl) rfl rfl rfl rfl rfl rfl 123 92 (.tmp 39) (.tmp 34) rfl rfl rfl wc.heap.size i0 _ 19 232 Tryz.underlying123 ag.o ah.o ai.o aj.o rfl (by decide) (by decide) (.slice A' k c') k (rowsM M k) u a.size (.int .i64 101::.int .i64 k::M).toArray (by simp[q.o]) (by
     intro v hv;simp at hv;rcases hv with rfl | rfl | hv
     ·rfl
     ·rfl
     ·exact Hg.o v hv) ?h1 (by rfl) (by simp) (by simp) (by unfold maxLen;omega) (by omega) ?h2 ?h3
    case h1=>
     rintro a' h;simp[Act.eval,h]
    case h2=>exact fun W f=>a.trans f
    case h3=>
     intro v' W y Hq _;simp only[zA,zC,zD];obtain⟨VA,VC,rfl⟩:=hAk y;have ae:=zH (show W.ownsRow wc.heap.size 92 19 (.slice VA (k+1) VC) (k+1) (rowsM M (k+1))∧Below wc.heap.size wc W from⟨y,a.trans Hq⟩);clear y Hq a u;go_wp2_with fail;exact⟨⟨k+1,VA,VC,by omega,rfl,by go_num,ae⟩,by simp[intOf];omega⟩
   ·obtain rfl:k=4:=by omega
    have q1:¬ ((4:Nat):Int)<4:=by omega
    clear hk4;go_wp2_with fail;go_ret;have Hr:Below w1.heap.size w1 wr:=l.o.trans (d.o.2.mono l.o.size);have an:=HA.o.fix (P:=fun _=>True) (Fix.same (o:=o) Hr) trivial;have h1:=hGa d.o.1 (Nat.le_trans B.o.size l.o.size);have h2:=hWd HM.o an;have h3:=zB B.o Hr;first
     |exact⟨A',c',rfl,⟨rowsM M 4,h1,h2⟩,h3⟩
     |exact⟨A',c',rfl,rowsM M 4,h1,h2,h3⟩
def PkN (w:World) (b n:Nat):Prop:=∃ L,L.length=n∧PkR w b L
theorem PkN.keep {w w':World} {b n:Nat} (h:PkN w b n) (d:Below w.heap.size w w'):PkN w' b n:=by
 obtain⟨L,a,c⟩:=h;exact⟨L,a,c.keep d⟩
theorem PkN.lt {w:World} {b n:Nat} (h:PkN w b n):b<w.heap.size:=by
 obtain⟨L,_,a⟩:=h;exact a.lt
theorem KeepX.trans {w w1 w2:World} {b:Nat} (h:KeepX w w1 b) (k:KeepX w1 w2 b):KeepX w w2 b:=fun X cs T fr d a c=>k X cs T fr (h X cs T fr d a c) a c
theorem KeepX.of_below {w w':World} {b:Nat} (h:Below w.heap.size w w'):KeepX w w' b:=fun X cs T fr a _ _=>(h.block X (zL a)).trans a
theorem hHz (b n x:Nat) (i:x<256) (j:n+1≤65536) (w:World) (h:PkN w b n) :
  Calls Tryz.prog 87 #[.pointer (some ⟨b,0,none⟩),.int .i64 x] w fun e w'=>e=.returned (.tuple #[])∧PkN w' b (n+1)∧Below b w w'∧KeepX w w' b:=by
 obtain⟨L,g,h⟩:=h;refine(hA5 b L _ x i (by omega) (by omega) w h.2).mono fun e w' ⟨a,c,d,f⟩=>⟨a,⟨L++beL 1 x,by simp[beL,g],by simp[beL];omega,?_⟩,d,f.keepX h.2⟩;have e:65536 - (L++beL 1 x).length=65536 - L.length - 1:=by simp[beL];omega
 rw[e];exact c
theorem hVz (b n x:Nat) (i:x<65536) (j:n+2≤65536) (w:World) (h:PkN w b n) :
  Calls Tryz.prog 88 #[.pointer (some ⟨b,0,none⟩),.int .i64 x] w fun e w'=>e=.returned (.tuple #[])∧PkN w' b (n+2)∧Below b w w'∧KeepX w w' b:=by
 obtain⟨L,g,h⟩:=h;refine(hMy b L _ x i (by omega) (by omega) w h.2).mono fun e w' ⟨a,c,d,f⟩=>⟨a,⟨L++beL 2 x,by simp[beL,g],by simp[beL];omega,?_⟩,d,f.keepX h.2⟩;have e:65536 - (L++beL 2 x).length=65536 - L.length - 2:=by simp[beL];omega
 rw[e];exact c
theorem hH0 (b n:Nat) (s:ByteArray) (i:s.size≤65535) (j:n+2+s.size≤65536) (w:World) (h:PkN w b n) :
  Calls Tryz.prog 91 #[.pointer (some ⟨b,0,none⟩),.string s] w fun e w'=>e=.returned (.tuple #[])∧PkN w' b (n+2+s.size)∧Below b w w'∧KeepX w w' b:=by
 obtain⟨L,g,h⟩:=h;exact(hKe b L s i (by omega) w h).mono fun e w' ⟨a,c,d,f⟩=>⟨a,⟨L++txL s,by rw[List.length_append,hBb,g];omega,c⟩,d,f⟩
theorem hUt (b n:Nat) (by_:Nat) (B:by_<256) (t:ByteArray) (C:t.size≤65535) (E:n+3+t.size≤65536) (w:World) (h:PkN w b n) :
  Calls Tryz.prog 121 #[.agg #[.pointer (some ⟨b,0,none⟩)],.agg #[.int .i64 by_,.string t]] w fun e w'=>e=.returned (.tuple #[])∧PkN w' b (n+3+t.size)∧Below b w w'∧KeepX w w' b:=by
 obtain⟨a1,a2,F,c⟩:=hAp w (.cells #[.pointer (some ⟨b,0,none⟩)] 200) (.cells #[.int .i64 by_,.string t] 114);have p:=zH a1;have q:=zH a2;have r:=zH c;have m:=zH h.lt;have s:=fun w h=>zH (hHz b n by_ B (by omega) w h);have u:=fun w h=>zH (hH0 b (n+1) t C (by omega) w h);have D:=zH (h.keep c);have c1:=(zR _ w.heap.size 0 _ _ _ a1).trans (show _=some (Value.pointer (some ⟨b,0,none⟩)) from rfl);have c2:=zQ _ (w.heap.size+1) 0 (.int .i64 by_) a2;clear h a1 a2 c B C E;go_enter Tryz.func121,Tryz.ntmps121;go_wp2_with fail;refine(s _ D.o).o.mono ?_;rintro e w2 ⟨rfl,i,d,a⟩;have y:=zH i;have k:=zH ((r.o.mono (Nat.le_of_lt m.o)).trans d);have v:=zH ((KeepX.of_below (b:=b) r.o).trans a);have r1:=a _ _ _ _ p.o (by decide) (by have:=m.o;omega);have r2:=a _ _ _ _ q.o (by decide) (by have:=m.o;omega);clear c1 c2 i d a;have c1:=(zR _ w.heap.size 0 _ _ _ r1).trans (show _=some (Value.pointer (some ⟨b,0,none⟩)) from rfl);have c2:=zQ _ (w.heap.size+1) 1 (.string t) r2;clear r1 r2;go_wp2_with fail;refine(u _ y.o).o.mono ?_;rintro e w3 ⟨rfl,j,f,g⟩;have z:=zH j;have l:=zH (k.o.trans f);have x:=zH (v.o.trans g);clear c1 c2 j f g;go_wp2_with fail;go_end0;exact⟨rfl,by have:=z.o;rwa [show n+1+2+t.size=n+3+t.size by omega] at this,l.o,x.o⟩
theorem hOz (W:World):(convert 244 9 (.slice (some ⟨W.heap.size,0,none⟩) 1 1)).run Tryz.prog (W.alloc (.cells #[.int .u8 0] 5))=.ok (.string ⟨#[0]⟩) (W.alloc (.cells #[.int .u8 0] 5)):=by
 refine run_convert_bytes_back (W.alloc (.cells #[.int .u8 0] 5)) 244 9 5 ⟨W.heap.size,0,none⟩ 1 [0] Tryz.underlying244 Tryz.underlying5 Tryz.underlying9 (fun j a=>?_);have:j=0:=by simp at a;omega
 subst this;have e:(⟨W.heap.size,0,none⟩:Addr).add 0=⟨W.heap.size,0,none⟩:=by unfold Addr.add;split<;>simp_all
 rw[e,zR _ _ _ _ _ _ (heap_alloc_new W _)];rfl
theorem hUk (w:World):Calls Tryz.prog 109 #[.agg nullV] w fun e w'=>e=.returned (.tuple #[.string ⟨#[0]⟩,.int .i64 0])∧Below w.heap.size w w':=by
 have c:Below w.heap.size w (w.alloc (.cells nullV 36)):=(Below.refl _ _).alloc (Nat.le_refl _) _;have a:=zH c;have f:=fun w=>zH (hKb w);have g:=hAf (heap_alloc_new w (.cells (six 0 0 0 ⟨#[]⟩ 0 0) 36));obtain⟨z0,z1,z2,z3,z4,z5⟩:=g;unfold nullV at f a ⊢;unfold six at z0 z1 z2 z3 z4 z5;clear c;have h:=hOz;go_enter Tryz.func109,Tryz.ntmps109;go_wp2_with fail;refine(f _).o.mono ?_;rintro r w1 ⟨rfl,d⟩;have b:=zH (zB a.o d);clear z0 z1 z2 z3 z4 z5 d;go_wp2_with fail;go_ret2;exact⟨rfl,b.o.alloc b.o.size _⟩
theorem hZs (a c k f:Int) (s:ByteArray) (re:Nat) (t:ByteArray) (l:∀ w,Calls Tryz.prog 109 #[.agg (six a c k s re f)] w fun e w'=>e=.returned (.tuple #[.string t,.int .i64 0])∧Below w.heap.size w w') (b n:Nat) (D:t.size≤65535) (C:n+2+t.size≤65536) (w:World) (h:PkN w b n) :
  Calls Tryz.prog 89 #[.agg #[.pointer (some ⟨b,0,none⟩)],.agg (six a c k s re f)] w fun e w'=>e=.returned (.tuple #[])∧PkN w' b (n+2+t.size)∧Below b w w'∧KeepX w w' b:=by
 obtain⟨a1,a2,F,j⟩:=hAp w (.cells #[.pointer (some ⟨b,0,none⟩)] 200) (.cells (six a c k s re f) 36);have g:=zH a1;have u:=zH j;have E:=zH h.lt;have v:=fun w h=>zH (hH0 b n t D C w h);have y:=zH (h.keep j);have l:=fun w=>zH (l w);obtain⟨z0,z1,z2,z3,z4,z5⟩:=hAf a2;unfold six at l u g y z0 z1 z2 z3 z4 z5 ⊢;clear h a1 a2 j D C;go_enter Tryz.func89,Tryz.ntmps89;go_wp2_with fail;refine(l _).o.mono ?_;rintro e w2 ⟨rfl,d⟩;have i:=zH (zB u.o d);have z:=zH (y.o.keep d);have c1:=(zR _ w.heap.size 0 _ _ _ ((d.block _ (zL g.o)).trans g.o)).trans (show _=some (Value.pointer (some ⟨b,0,none⟩)) from rfl);clear z0 z1 z2 z3 z4 z5 d;go_wp2_with fail;refine(v _ z.o).o.mono ?_;rintro e w3 ⟨rfl,q,m,p⟩;have B:=zH q;have r:=zH ((i.o.mono (Nat.le_of_lt E.o)).trans m);have x:=zH ((KeepX.of_below (b:=b) i.o).trans p);clear c1 q m p;go_wp2_with fail;go_end0;exact⟨rfl,B.o,r.o,x.o⟩
def sigN:List St→Nat
 |[]=>0
 |s::l=>3+s.2.size+sigN l
theorem hUf (l:List St):∀ k,k<l.length→sigN (l.take (k+1))=sigN (l.take k)+(3+(l.getD k (0,ByteArray.empty)).2.size):=by
 induction l with
 |nil=>intro k a;simp at a
 |cons s l ih=>
  intro k a;cases k with
  |zero=>simp[sigN]
  |succ k=>
   have:=ih k (by simpa using a);simp only[List.take_succ_cons,sigN] at this ⊢;rw[this];simp;omega
theorem hYe (l:List St) (k:Nat):sigN (l.take k)≤sigN l:=by
 induction l generalizing k with
 |nil=>simp
 |cons s l ih=>
  cases k with
  |zero=>simp[sigN]
  |succ k=>
   have:=ih k;simp only[List.take_succ_cons,sigN];omega
theorem hYl (l:List St) (hs:∀ s∈l,0≤s.1∧s.1<200∧s.2.size≤65535) (o:Tags) (A:Option Addr) (m c b n:Nat) (hm:m≤16) (hn:n+1+sigN l≤65536) (w0 w:World) (F:Below w0.heap.size w0 w) (Hh:w0.heap.size≤b) (M:SlD encS w0 o A m c l) (h:PkN w b n) :
  Calls Tryz.prog 92 #[.agg #[.pointer (some ⟨b,0,none⟩)],.slice A m c] w fun e w'=>e=.returned (.tuple #[])∧PkN w' b (n+1+sigN l)∧Below b w w'∧KeepX w w' b:=by
 have a:=(Below.refl w.heap.size w).alloc (Nat.le_refl _) (.cells #[.pointer (some ⟨b,0,none⟩)] 200);have g:=heap_alloc_new w (.cells #[.pointer (some ⟨b,0,none⟩)] 200);have N:=M.1;have HN:=zH g;have O:=zH a;have L:=zH h.lt;have E:=fun w h=>zH (hHz b n m (by omega) (by omega) w h);have Y:=zH (h.keep a);have HD:=zH M;have P:=zH F;have Hc:=zH hs;have c1:=(zR _ w.heap.size 0 _ _ _ g).trans (show _=some (Value.pointer (some ⟨b,0,none⟩)) from rfl);have qm:(m:Int)≤16:=by omega
 have qm0:(0:Int)≤(m:Int):=by omega
 clear a g M F hs h;go_enter Tryz.func92,Tryz.ntmps92;go_wp2_with fail;refine(E _ Y.o).o.mono ?_;rintro e w2 ⟨rfl,I,G,u⟩;have K:=zH ((O.o.mono (Nat.le_of_lt L.o)).trans G);have S:=zH ((KeepX.of_below (b:=b) O.o).trans u);have V:=zH (u _ _ _ _ HN.o (by decide) (by have:=L.o;omega));have Z:=zH I;clear c1 I G u E Y;go_wp2_with fail;go_loopw [13] (fun j wr=>∃ k:Nat,k≤m∧j=.int .i64 k∧zI (PkN wr b (n+1+sigN (l.take k)))∧zI (Below b w wr)∧zI (KeepX w wr b)∧zI (wr.heap[w.heap.size]?=some (.cells #[.pointer (some ⟨b,0,none⟩)] 200 (0,0)))) (fun j _=>m - (intOf j).toNat)
 case atStart=>exact⟨0,by omega,rfl,zH (by simpa[sigN] using Z.o),K,S,V⟩
 case round=>
  obtain⟨k,hk,rfl,D,C,y,B⟩:=hrel;have q0:(0:Int)≤(k:Int):=by omega
  by_cases hk4:k<m
  ·have q1:(k:Int)<(m:Int):=by omega
   obtain⟨sb,so,hA,J,_,d⟩:=HD.o.at 2 hBf (0,ByteArray.empty) (by omega);subst hA;have z:l.getD k (0,ByteArray.empty)∈l:=by
    rw[List.getD_eq_getElem?_getD,List.getElem?_eq_getElem (by omega)];exact List.getElem_mem _
   have f:=Hc.o _ z;have i:=hUf l k (by omega);have Hi:=hYe l (k+1);have v0:=d k 0 _ hk4 (by omega) rfl;have v1:=d k 1 _ hk4 (by omega) rfl;have r:Below w0.heap.size w0 wr:=P.o.trans (C.o.mono Hh);have v0:wr.cell? ⟨sb,so+k*2,none⟩=_:=(r.cell (p:=⟨sb,so+(k*2+0),none⟩) J).trans v0;have v1:wr.cell? ⟨sb,so+k*2+1,none⟩=_:=(r.cell (p:=⟨sb,so+(k*2+1),none⟩) J).trans v1;generalize l.getD k (0,ByteArray.empty)=s at f i v0 v1;obtain⟨by_,t⟩:=s;obtain⟨x,rfl⟩:∃ x:Nat,by_=(x:Int):=⟨by_.toNat,by have:=f.1;dsimp only at this;omega⟩;dsimp only at f i v0 v1;have a:=(Below.refl wr.heap.size wr).alloc (Nat.le_refl _) (.cells #[.int .i64 x,.string t] 114);have g:=heap_alloc_new wr (.cells #[.int .i64 x,.string t] 114);have HS:=fun w h=>zH (hUt b (n+1+sigN (l.take k)) x (by omega) t f.2.2 (by omega) w h);have Hg:=D.o.lt;have Hb:=zH (D.o.keep a);have R:=zH (C.o.trans (a.mono (Nat.le_of_lt Hg)));have U:=zH (y.o.trans (KeepX.of_below (b:=b) a));have q:=(a.block _ (zL B.o)).trans B.o;have W:=zH q;have c0:=(zR _ w.heap.size 0 _ _ _ q).trans (show _=some (Value.pointer (some ⟨b,0,none⟩)) from rfl);have c1:=(zR _ wr.heap.size 0 _ _ _ g).trans (show _=some (Value.int .i64 x) from rfl);have c2:=(zR _ wr.heap.size 1 _ _ _ g).trans (show _=some (Value.string t) from rfl);have Hf:=zH i;clear a g q D C y B d r z f i Hi;go_wp2_with fail;refine(HS _ Hb.o).o.mono ?_;rintro e w3 ⟨rfl,Hj,H,v⟩;have Ha:=zH (show PkN w3 b (n+1+sigN (l.take (k+1))) by rw[Hf.o];rwa [show n+1+(sigN (l.take k)+(3+t.size))=n+1+sigN (l.take k)+3+t.size by omega]);have Q:=zH (R.o.trans H);have T:=zH (U.o.trans v);have X:=zH (v _ _ _ _ W.o (by decide) (by have:=L.o;omega));clear Hj H v c0 c1 c2 v0 v1;go_wp2_with fail;exact⟨⟨k+1,by omega,by go_num,Ha,Q,T,X⟩,by simp[intOf];omega⟩
  ·obtain rfl:k=m:=by omega
   have q1:¬ (k:Int)<(k:Int):=by omega
   clear hk4;go_wp2_with fail;go_end0;exact⟨rfl,by have:=D.o;rwa [←N,List.take_length] at this,C.o,y.o⟩
end Go.Proofs.YtlibpcllceepkaaGreat
