/- Joined texts of the claim. No condition. -/
import Derived.Test.YtlibpcllceepkaaGreatB12
import Derived.Test.YtlibpcllceepkaaGreatB11
namespace Go.Proofs.YtlibpcllceepkaaGreat
open Go.RowKit
set_option maxRecDepth 100000
set_option linter.unusedVariables false
set_option linter.unusedSimpArgs false
set_option maxHeartbeats 16000000
theorem hFe:(Tryz.prog.info? 3).map (fun i=>(i.zero,i.size,i.bytes))=some (some (.int .i64 0),1,8):=by kernel_rfl
def memV (k:Nat):List Value:=(List.range k).map fun(j:Nat)=>.int .i64 j
theorem hJ9 (k:Nat):memV (k+1)=memV k++[.int .i64 k]:=by unfold memV;rw[List.range_succ,List.map_append];rfl
def restM (k:Nat):List UInt8:=memL 4 |>.drop k
theorem hFl (k:Nat) (h:k<4):restM k=beL 1 k++restM (k+1):=by
 obtain rfl | rfl | rfl | rfl:k=0∨k=1∨k=2∨k=3:=by omega
 all_goals rfl
theorem hT8 (k:Nat) (h:k≤4):(restM k).length=4 - k:=by
 obtain rfl | rfl | rfl | rfl | rfl:k=0∨k=1∨k=2∨k=3∨k=4:=by omega
 all_goals rfl
theorem hIx {w:World} {base:Nat} {A:Option Addr} {c:Nat} (h:w.ownsRow base 3 1 (.slice A 4 c) 4 (memV 4)):MemN w base A c:=by
 rcases h.2 with⟨_,i⟩ | ⟨g,cap,cur,j,a,b,d,f,l,m⟩
 ·cases i
 ·injection j with e1 _ e3;subst e1;subst e3;refine⟨⟨d,f,g,0,rfl,(zL b),fun k n=>?_⟩,fun ad e=>by cases e;exact a⟩;have:=World.ownsRow.cells h (g:=g) rfl k (.int .i64 k) (by
   obtain rfl | rfl | rfl | rfl:k=0∨k=1∨k=2∨k=3:=by omega
   all_goals rfl)
  rw[hAl] at this;exact this
theorem hG5 {fn:Func} {p q:Tmp} (h:fn.results=#[.cell p 31,.tmp q]) (tmps:Array Value) (w:World) (g:Nat) (cs:Array Value) (e:cs.size=2)
  (d:tmps.getD p undef=.pointer (some ⟨g,0,none⟩)) (b:w.heap[g]?=some (.cells cs 31 (0,0))) :
  (results fn tmps).run Tryz.prog w=.ok (.tuple #[.agg cs,tmps.getD q undef]) w:=by
 have a:tmps[p]?.getD undef=.pointer (some ⟨g,0,none⟩):=by simpa using d
 have c:=run_loadVar_row (P:=Tryz.prog) w g 31 31 cs (0,0) _ b Tryz.underlying31 rfl (by rw[e];kernel_rfl);simp[results,h,a,asAddr,c]
theorem hTw (e:Nat) (he:e≤60) (w:World) :
  Calls Tryz.prog 305 #[.string (confT e)] w fun r w'=>∃ A c,r=.returned (.tuple #[.agg #[.int .i64 e,.slice A 4 c],.int .i64 0])∧MemN w' w.heap.size A c∧Below w.heap.size w w':=by
 obtain⟨i0,ao,B,ay,az⟩:=info_parts hFe;have aH:=zH ao;have aI:=zH B;have aJ:=zH ay;have aK:=zH az;clear ao B ay az;have Hl:zI ((confT e).data.toList=beL 1 67++(beL 2 e++(beL 1 4++restM 0))∧(confT e).size≤maxLen):=zH ⟨by
  simp[confT,confL,bs,restM,memL],by rw[hAv];decide⟩
 have hU:=fun w A c h=>zH (hF5 e he A c w h);obtain⟨x,hx⟩:=zN (confT e);rw[←hx] at Hl hU ⊢;have teq:(x.toList == x.toList)=true:=hBw _ _ _ (decide_eq_true rfl);have O:=zH (heap_alloc_new w (.cells #[.int .i64 0,.slice none 0 0] 31));have Hf:=zH ((Below.refl w.heap.size w).alloc (Nat.le_refl _) (.cells #[.int .i64 0,.slice none 0 0] 31));have B:w.heap.size<(w.alloc (.cells #[.int .i64 0,.slice none 0 0] 31)).heap.size:=by simp
 clear hx;go_enter Tryz.func305,Tryz.ntmps305;go_wp2_with fail;generalize w.alloc _=w0 at O Hf B ⊢;refine(hM7 x w0).mono ?_;rintro r w1 ⟨rfl,HJ,Ht⟩;obtain⟨rb,aw⟩:=zN (w0.heap.size);rw[←aw] at HJ ⊢;have aT:w.heap.size<rb:=by omega
 have Hj:=zH (Rs.new HJ Hl.o.2);rw[Hl.o.1] at Hj;have Hg:=zH (Hf.o.trans (Ht.mono (Nat.le_of_lt B)));have E:=zH ((Ht.block _ B).trans O.o);clear HJ Ht aw O Hf B;go_wp2_with fail;refine(hC6 rb 67 (by omega) _ w1 Hj.o).mono ?_;rintro r w2 ⟨rfl,aq,Hx⟩;have ae:=zH aq;have Hh:=zH (Hg.o.trans (hAj Hx Hg.o.size (by omega)));have F:=zH ((Hx.block _ (zL E.o) (fun e=>by have:=Option.some.inj e;omega)).trans E.o);clear aq Hx Hj Hg E;go_wp2_with fail;refine(hYb rb e (by omega) _ w2 ae.o).mono ?_;rintro r w3 ⟨rfl,hI,Hy⟩;have M:=Hh.o.trans (hAj Hy Hh.o.size (by omega));have u:=(Hy.block _ (zL F.o) (fun e=>by have:=Option.some.inj e;omega)).trans F.o;have S:=zH (M.alloc M.size (.cells #[.int .i64 e,.slice none 0 0] 31));have m:=zH ((heap_alloc_old w3 (.cells #[.int .i64 e,.slice none 0 0] 31) (zL u)).trans u);have Hk:=zH (hI.keep ((Below.refl w3.heap.size w3).alloc (Nat.le_refl _) (.cells #[.int .i64 e,.slice none 0 0] 31)));have q:=zH (heap_alloc_new w3 (.cells #[.int .i64 e,.slice none 0 0] 31));obtain⟨cb,am⟩:=zN (w3.heap.size);have aQ:rb<cb:=by have:=hI.lt;omega
 have aS:w.heap.size<cb:=by omega
 clear hI Hy ae Hh F M u;go_wp2_with fail;rw[←am] at q ⊢;generalize w3.alloc _=w4 at S m Hk q ⊢;clear am;refine(hC6 rb 4 (by omega) _ w4 Hk.o).mono ?_;rintro r w5 ⟨rfl,ar,X⟩;have aF:=zH ar;have aD:=zH (S.o.trans (hAj X S.o.size (by omega)));have hJ:=zH ((X.block _ (zL m.o) (fun e=>by have:=Option.some.inj e;omega)).trans m.o);have aB:=zH ((X.block _ (zL q.o) (fun e=>by have:=Option.some.inj e;omega)).trans q.o);clear ar X Hk S m q;go_wp2_with fail;go_loopw [8] (fun j wr=>∃ k:Nat,k≤4∧j=.int .i64 (4 - (k:Int))∧zI (Rs wr rb (restM k))∧zI (∃ A c,Own1 wr (w.heap.size+1) 3 1 (.slice A k c) k (memV k)∧wr.heap[cb]?=some (.cells #[.int .i64 e,.slice A k c] 31 (0,0)))∧zI (wr.heap[w.heap.size]?=some (.cells #[.int .i64 0,.slice none 0 0] 31 (0,0)))∧zI (Below w.heap.size w wr)) (fun j _=>(intOf j).toNat)
 case atStart=>exact⟨0,by omega,rfl,aF,zH ⟨none,0,Own1.nil _ _ _ _,aB.o⟩,hJ,aD⟩
 case round=>
  obtain⟨k,hk,rfl,Z,I,g,hb⟩:=hrel;by_cases hk4:k<4
  ·have n0:(0:Int)<4 - (k:Int):=by omega
   have aL:=hT8 k (by omega);obtain⟨n,hn⟩:=zN ((restM k).length);have H:=zH (hPx rb _ wr Z.o);rw[←hn] at H;have n2:(0:Int)<(n:Int):=by omega
   clear aL hn;go_wp2_with fail;refine H.o.mono ?_;rintro r w6 ⟨rfl,C⟩;obtain⟨A,c,Hb,l⟩:=I.o;have J:=zH (Z.o.keep C);rw[hFl k hk4] at J;have Hi:=zH (zB hb.o C);have G:=zH ((C.block _ (zL g.o)).trans g.o);have s:=zH ((C.block _ (zL l)).trans l);have V:=zH (show Own1 w6 (w.heap.size+1) 3 1 (.slice A k c) k (memV k) from Hb.fix (P:=fun _=>True) (Fix.same C) trivial);have c0:=zR w6 cb 0 _ _ _ s.o;have c1:=zR w6 cb 1 _ _ _ s.o;simp at c0 c1;have ak:Below w6.heap.size w6 w6.drew:=⟨rfl,rfl,rfl,Nat.le_refl _,fun _ _=>rfl⟩;have ah:=zH (hC6 rb k (by omega) _ w6.drew (J.o.keep ak));clear C Hb l Z I g hb H ak;go_wp2_with fail;obtain⟨rcs,ax⟩:=J.o.row;have ai:=zH ax;have an:=(zL s.o);have aR:=J.o.lt;have aN:=(zL G.o);clear ax;go_region_law (first
    |(go_simp;go_at_call 304;refine ah.o.mono ?_;rintro r w7 ⟨rfl,av,D⟩;have z:w6.grownBy w7 (some rb):=⟨D.os,D.tape,D.output,D.size,D.block⟩;have b:=(z.block _ an (fun e=>by have:=Option.some.inj e;omega)).trans s.o;have e1:=(zR w7 cb 1 _ _ _ b).trans rfl;simp at e1;have Hw:cb<w7.heap.size:=Nat.lt_of_lt_of_le an z.size;have a:Own1 (w7.alloc (.cells #[.int .i64 k] 3)) (w.heap.size+1) 3 1 (.slice A k c) k (memV k):=(V.o.grown z ai.o (by decide)).below ((Below.refl _ _).alloc (Nat.le_refl _) _))
    |(refine hBq (by rfl) (.tmp 31) (.tmp 34) 29 (by rfl) _ 1 3 i0 _ 1 8 Tryz.underlying29 aH.o aI.o aJ.o aK.o rfl (by decide) _ _ _ (by rfl) a ⟨w7.heap.size,0,none⟩ 1 1 [_] (by rfl) (by rfl) (World.news_of_block (cs:=#[_]) (t:=3) (fr:=(0,0)) (heap_alloc_new w7 _)) (by simp[Value.oneCell']) (by unfold maxLen;omega) (by omega) ?_;intro v2 w8 d;obtain⟨VA2,VC2,rfl⟩:=hAk d.row.1;have v:=d.keep a ((heap_alloc_old w7 (.cells #[.int .i64 k] 3) Hw).trans b) (by decide);have t0:=(zR w8 cb 1 _ _ _ v).trans rfl;have tf:=frozen_of_row w8 cb 1 _ _ v;simp at t0))
   all_goals
    have Hr:w7.grownBy (w7.alloc (.cells #[.int .i64 k] 3)) none:=World.grownBy_alloc _ _ _;have R:w.heap.size+1≤(w7.alloc (.cells #[.int .i64 k] 3)).heap.size:=by have:=z.size;have:=Hr.size;omega
    have Hm:=Hi.o.trans (hAj z Hi.o.size (by omega));have Hp:=(Hm.alloc Hm.size (.cells #[.int .i64 k] 3)).trans ((d.below a R).mono (Nat.le_succ _));have Hz:=d.own1 R;have L:w8.grownBy (w8.setCell ⟨cb,1,none⟩ (.slice VA2 (k+1) VC2)) (some cb):=hAb (hAa (Below.refl _ _) _) (p:=⟨cb,1,none⟩) (.inl rfl) _;have Y:=Hz.grown L v (by decide);have Hu:=heap_setCell_same w8 cb 1 _ _ (.slice VA2 (k+1) VC2) v;have aj:=Hp.trans (hAj L Hp.size (by omega));have Ha:(w8.setCell ⟨cb,1,none⟩ (.slice VA2 (k+1) VC2)).heap[w.heap.size]?=some (.cells #[.int .i64 0,.slice none 0 0] 31 (0,0)):=by
     have k1:=(z.block _ aN (fun e=>by have:=Option.some.inj e;omega)).trans G.o;have k2:=(heap_alloc_old w7 (.cells #[.int .i64 k] 3) (zL k1)).trans k1;have k3:=d.keep a k2 (by decide);exact(L.block _ (zL k3) (fun e=>by have:=Option.some.inj e;omega)).trans k3
    have au:Rs (w8.setCell ⟨cb,1,none⟩ (.slice VA2 (k+1) VC2)) rb (restM (k+1)):=by
     obtain⟨y,i,y1,y2⟩:=av;have k2:=(heap_alloc_old w7 (.cells #[.int .i64 k] 3) (zL y1)).trans y1;have k3:=d.keep a k2 (by decide);exact⟨y,i,(L.block rb (zL k3) (fun e=>by have:=Option.some.inj e;omega)).trans k3,y2⟩
    have ag:=zH au;have W:zI (∃ A c,Own1 (w8.setCell ⟨cb,1,none⟩ (.slice VA2 (k+1) VC2)) (w.heap.size+1) 3 1 (.slice A (k+1) c) (k+1) (memV (k+1))∧(w8.setCell ⟨cb,1,none⟩ (.slice VA2 (k+1) VC2)).heap[cb]?=some (.cells #[.int .i64 e,.slice A (k+1) c] 31 (0,0))):=zH ⟨VA2,VC2,by rw[hJ9];exact Y,Hu⟩;have U:=zH Ha;have T:=zH aj;clear Hr R Hm Hp Hz L Y Hu aj au Ha d a av D z b v e1 t0 tf Hw;generalize w8.setCell ⟨cb,1,none⟩ (.slice VA2 (k+1) VC2)=w9 at ag W U T ⊢;clear c0 c1 ah J Hi G s V ai;have qn:(4:Int) - (k:Int) - 1=4 - ((k+1:Nat):Int):=by omega
    have q0:(k:Int)<4:=by omega
    have q1:(0:Int)≤(k:Int):=by omega
    go_wp2_with fail;exact⟨⟨k+1,by omega,by go_num,ag,W,U,T⟩,by simp[intOf];omega⟩
  ·obtain rfl:k=4:=by omega
   clear hk4;obtain⟨A,c,Hc,l⟩:=I.o;have Q:=hIx Hc.row;have c0:=(zR wr cb 0 _ _ _ l).trans rfl;have c1:=(zR wr cb 1 _ _ _ l).trans rfl;simp at c0 c1;have aa:=hU wr A c Q.1;have ab:=zH Q;have N:=zH l;have hz:¬ (0:Int)<4 - ((4:Nat):Int):=by omega
   clear I Hc l Q Z;go_wp2_with fail;refine aa.o.mono ?_;rintro r w7 ⟨rfl,K⟩;have f:=(K.block _ (zL g.o)).trans g.o;have b:=(K.block _ (zL N.o)).trans N.o;have ap:MemN w7 (w.heap.size+1) A c:=ab.o.keep K;have Hq:=zB hb.o K;have d0:=(zR w7 cb 0 _ _ _ b).trans rfl;have d1:=(zR w7 cb 1 _ _ _ b).trans rfl;have f0:=fun k=>frozen_of_row w7 w.heap.size k _ _ f;have g0:=(zR w7 w.heap.size 0 _ _ _ f).trans rfl;have g1:=(zR w7 w.heap.size 1 _ _ _ f).trans rfl;simp at d0 d1 g0 g1;obtain⟨t1,t2⟩:=hAz w7 w.heap.size _ _ _ (.int .i64 e) (.slice A 4 c) f;have aG:=zH t1;have aE:=zH ((ap.grown t2 (by omega)).lower (Nat.le_succ _));have T:=zH (Hq.trans (hAj t2 Hq.size (Nat.le_refl _)));clear f b ap Hq K hb g aa ab N c0 c1 t1 t2;go_wp2_with fail;exact bodyPost_ret (hG5 rfl _ _ w.heap.size _ rfl (by rfl) aG.o) rfl ⟨A,c,rfl,aE.o,T.o⟩
structure RdSt (B b kb rb base:Nat) (w0 w:World) (row:Array Value) (S:List UInt8) (kv:Kvs):Prop where
 o1:B≤kb
 o2:kb<b
 o3:b<rb
 row:w.heap[b]?=some (.cells row 168 (0,0))
 rd:Rs w rb S
 mp:MpK 9 w kb (encK kv)
 bel:Below B w0 w
 Bw:B≤w0.heap.size
 sz:base≤w.heap.size
theorem RdSt.blt {B b kb rb base:Nat} {w0 w:World} {row:Array Value} {S:List UInt8} {kv:Kvs} (h:RdSt B b kb rb base w0 w row S kv):b<w.heap.size:=(zL h.row)
theorem RdSt.rdr {B b kb rb base:Nat} {w0 w w':World} {row:Array Value} {S S':List UInt8} {kv:Kvs} (h:RdSt B b kb rb base w0 w row S kv) (c:Rs w' rb S') (a:w.grownBy w' (some rb)):RdSt B b kb rb base w0 w' row S' kv:=
 ⟨h.o1,h.o2,h.o3,(a.block b h.blt (fun e=>by have:=Option.some.inj e;have:=h.o3;omega)).trans h.row,c,h.mp.move (a.block kb h.mp.lt (fun e=>by have:=Option.some.inj e;have:=h.o3;have:=h.o2;omega)),
  h.bel.trans (hAj a (Nat.le_trans h.Bw h.bel.size) (by have:=h.o1;have:=h.o2;have:=h.o3;omega)),h.Bw,Nat.le_trans h.sz a.size⟩
theorem RdSt.below {B b kb rb base:Nat} {w0 w w':World} {row:Array Value} {S:List UInt8} {kv:Kvs} (h:RdSt B b kb rb base w0 w row S kv) (a:Below w.heap.size w w'):RdSt B b kb rb base w0 w' row S kv:=
 ⟨h.o1,h.o2,h.o3,(a.block b h.blt).trans h.row,h.rd.keep a,h.mp.move (a.block kb h.mp.lt),h.bel.trans (a.mono (Nat.le_trans h.Bw h.bel.size)),h.Bw,Nat.le_trans h.sz a.size⟩
theorem RdSt.set {B b kb rb base:Nat} {w0 w:World} {row:Array Value} {S:List UInt8} {kv:Kvs} (h:RdSt B b kb rb base w0 w row S kv) (k:Nat) (v:Value):RdSt B b kb rb base w0 (w.setCell ⟨b,k,none⟩ v) (row.setIfInBounds k v) S kv∧w.grownBy (w.setCell ⟨b,k,none⟩ v) (some b):=by
 have a:w.grownBy (w.setCell ⟨b,k,none⟩ v) (some b):=hAb (hAa (Below.refl _ _) _) (p:=⟨b,k,none⟩) (.inl rfl) _;exact⟨⟨h.o1,h.o2,h.o3,heap_setCell_same w b k _ _ _ h.row,h.rd.grown a (by have:=h.o3;omega),h.mp.move (a.block kb h.mp.lt (fun e=>by have:=Option.some.inj e;have:=h.o2;omega)),
  h.bel.trans (hAj a (Nat.le_trans h.Bw h.bel.size) (by have:=h.o1;have:=h.o2;omega)),h.Bw,Nat.le_trans h.sz a.size⟩,a⟩
theorem RdSt.put {B b kb rb base:Nat} {w0 w w':World} {row:Array Value} {S:List UInt8} {kv kv':Kvs} (h:RdSt B b kb rb base w0 w row S kv) (c:MpK 9 w' kb (encK kv')) (a:w.grownBy w' (some kb)):RdSt B b kb rb base w0 w' row S kv':=
 ⟨h.o1,h.o2,h.o3,(a.block b h.blt (fun e=>by have:=Option.some.inj e;have:=h.o2;omega)).trans h.row,h.rd.grown a (by have:=h.o3;have:=h.o2;omega),c,
  h.bel.trans (hAj a (Nat.le_trans h.Bw h.bel.size) h.o1),h.Bw,Nat.le_trans h.sz a.size⟩
theorem RdSt.app {B b kb rb base:Nat} {w0 w w':World} {row:Array Value} {S:List UInt8} {kv:Kvs} {T:TypeId} {k:Nat} {v v':Value} {n m:Nat} {xs ys:List Value} (h:RdSt B b kb rb base w0 w row S kv) (l:B≤base)
  (a:AppOut w (fun b=>if b<base then 0 else 1) 1 T k v v' w' n xs) (c:Own1 w base T k v m ys) (f:T≠168) (j:T≠403):RdSt B b kb rb base w0 w' row S kv:=by
 refine⟨h.o1,h.o2,h.o3,a.keep c h.row (fun e=>f e.symm),?_,h.mp.move (a.grown.block kb h.mp.lt (fun e=>?_)),h.bel.trans ((a.below c h.sz).mono l),h.Bw,Nat.le_trans h.sz a.chg.size⟩
 ·obtain⟨y,i,y1,y2⟩:=h.rd;exact⟨y,i,a.keep c y1 (fun e=>j e.symm),y2⟩
 ·obtain⟨es,cl,o,_⟩:=h.mp;rcases c.1.2 with⟨rfl,_⟩ | ⟨g,cap,cur,rfl,_,d,_⟩
  ·cases e
  ·cases e;rw[o] at d;cases d
def ledX (e:Nat) (v1 v2:Value) (d kb:Nat):Array Value:=
 #[.int .i64 e,v1,v2,.int .i64 d,.map (some kb),.int .i64 0,.int .i64 0,.float .f64 0,.int .i64 0,.int .i64 0,.float .f64 0,.int .i64 0,.int .i64 0,.float .f64 0,.int .i64 0,.int .i64 0,.float .f64 0,.int .i64 0,.int .i64 0,.float .f64 0,.int .i64 0,.int .i64 0,.float .f64 0,.int .i64 0,.int .i64 0,.float .f64 0,.int .i64 0,.int .i64 0,.float .f64 0]
theorem hQq (kv:Kvs) (ks:List (List UInt8)) (k:Nat) (h:k<ks.length):keysL kv (ks.drop k)=txL (bs (ks.getD k []))++(be8 (canon ((getK kv (bs (ks.getD k []))).getD 0))++keysL kv (ks.drop (k+1))):=by
 rw[List.drop_eq_getElem_cons h];unfold keysL;rw[List.flatMap_cons,List.append_assoc,List.getD_eq_getElem?_getD,List.getElem?_eq_getElem h];rfl
theorem hXn (rho:Nat→Rq) (e d:Nat):ledL rho e d=beL 1 76++(txL (confT e)++(beL 1 4++(restM 0++(be4 d++(beL 1 (hist rho d).1.length++(keysL (hist rho d).1 (sortK (hist rho d).1)++cliL d (hist rho d).2.1 (hist rho d).2.2 8)))))):=by
 unfold ledL headLL restM;simp only[List.append_assoc,List.drop_zero]
theorem MemN.old {w w':World} {base X:Nat} {A:Option Addr} {c:Nat} (h:MemN w base A c) (m:∀ ad,A=some ad→ad.block<X) (d:Below X w w'):MemN w' base A c:=by
 obtain⟨⟨e,f,b,off,a,g,i⟩,j⟩:=h;refine⟨⟨e,f,b,off,a,Nat.lt_of_lt_of_le g d.size,fun k l=>?_⟩,j⟩;have:=i k l;unfold World.cell? at this ⊢;rw[d.block b (m _ a)];exact this
theorem MemN.lt {w:World} {base:Nat} {A:Option Addr} {c:Nat} (h:MemN w base A c):∀ ad,A=some ad→ad.block<w.heap.size:=fun ad e=>by
 obtain⟨⟨f,g,b,off,a,d,i⟩,j⟩:=h;rw[a] at e;cases e;exact d
theorem RdSt.rebase {B b kb rb base base':Nat} {w0 w:World} {row:Array Value} {S:List UInt8} {kv:Kvs} (h:RdSt B b kb rb base w0 w row S kv) (a:base'≤w.heap.size):RdSt B b kb rb base' w0 w row S kv:=⟨h.o1,h.o2,h.o3,h.row,h.rd,h.mp,h.bel,h.Bw,a⟩
theorem hVk (B b kb rb:Nat) (rho:Nat→Rq) (hr:ROk rho) (e d:Nat) (he:e≤60) (hd:d≤8) (C:4*e≤d) (h2:d≤4*(e+1)) (w:World) (Hr:((hist rho d).1.map Prod.fst).Nodup)
  (hB:B≤kb) (bX:kb<b) (bV:b<rb) (az:w.heap[b]?=some (.cells (ledX 0 (.slice none 0 0) (.slice none 0 0) 0 kb) 168 (0,0))) (aq:MpK 9 w kb []) (Ht:Rs w rb (ledL rho e d)) :
  Calls Tryz.prog 298 #[.pointer (some ⟨b,0,none⟩),.pointer (some ⟨rb,0,none⟩)] w fun r w'=>r=.returned (.bool true) ∧
   (∃ A1 c1 A2 c2,w'.heap[b]?=some (.cells (ledC e A1 c1 A2 c2 d kb (hist rho d).2.1 (hist rho d).2.2) 168 (0,0))∧MemN w' w.heap.size A1 c1∧MemN w' w.heap.size A2 c2) ∧
   (∃ kv,MpK 9 w' kb (encK kv)∧kv.Perm (hist rho d).1)∧Below B w w':=by
 obtain⟨i0,aS,bh,bi,bj⟩:=info_parts hFe;have bQ:=zH aS;have bR:=zH bh;have bS:=zH bi;have bT:=zH bj;clear aS bh bi bj;rw[hXn] at Ht;obtain⟨aU,aV,aW⟩:=hCb hr d hd;have bB:(hist rho d).1.length≤8:=by have:=hCp rho d;omega
 have bD:zI (d=0→(hist rho d).2.1=0∧(hist rho d).2.2=0):=zH (by rintro rfl;exact⟨rfl,rfl⟩);have Hk:=zH (show RdSt B b kb rb w.heap.size w w _ _ [] from⟨hB,bX,bV,az,Ht,aq,Below.refl _ _,by have:=aq.lt;omega,Nat.le_refl _⟩);have bN:zI ((backK (hist rho d).1 (sortK (hist rho d).1)).Perm (hist rho d).1):=zH (hIk Hr);have bP:=zH (hPe Hr);have aI:zI (∀ k,k<(hist rho d).1.length→∃ x,getK (hist rho d).1 (bs ((sortK (hist rho d).1).getD k []))=some x∧Real64 x∧1≤((sortK (hist rho d).1).getD k []).length∧((sortK (hist rho d).1).getD k []).length≤16):=zH (fun k hk=>by
  rw[List.getD_eq_getElem?_getD,List.getElem?_eq_getElem (by rw[hA4];exact hk)];exact hKt aU Hr (List.getElem_mem _))
 have J:=zH (hA4 (hist rho d).1);generalize bw:(hist rho d).2.1=cd at *;generalize bC:(hist rho d).2.2=rl at *;generalize bA:(hist rho d).1=kv0 at *;generalize bz:sortK kv0=ks at *;obtain⟨n,hn⟩:=zN (kv0.length);rw[←hn] at Hk aI J bB;have bL:=zH aV;have bM:=zH aW;have p:rb<w.heap.size:=Ht.lt;have Y:b<w.heap.size:=by omega
 have bO:=fun w=>zH (hTw e he w);have bU:B≤w.heap.size:=by omega
 clear aU aV aW Hr az aq Ht bw bC bA bz hn hr;go_enter Tryz.func298,Tryz.ntmps298;go_wp2_with fail;refine(hC6 rb 76 (by omega) _ w Hk.o.rd).mono ?_;rintro r w1 ⟨rfl,aX,aQ⟩;have v:=zH (Hk.o.rdr aX aQ);clear aX aQ Hk;go_wp2_with fail;refine(hJt rb (confT e) (by rw[hAv];omega) _ w1 v.o.rd).mono ?_;rintro r w2 ⟨rfl,aY,aR⟩;have H2:=zH (v.o.rdr aY aR);clear aY aR v;have ae:=bO w2;go_wp2_with fail;refine ae.o.mono ?_;rintro r w3 ⟨A1,c1,rfl,S,ak⟩;have aj:=(Below.refl w3.heap.size w3).alloc (Nat.le_refl _) (.cells #[.int .i64 e,.slice A1 4 c1] 31);have H3:=zH ((H2.o.below ak).below aj);have hI:=zH ((S.keep aj).lower H2.o.sz);have U:=zH (heap_alloc_new w3 (.cells #[.int .i64 e,.slice A1 4 c1] 31));obtain⟨cb,aP⟩:=zN (w3.heap.size);have cg:rb<cb:=by have:=(H2.o.below ak).rd.lt;omega
 clear aj S ak H2 ae;go_wp2_with fail;rw[←aP] at U ⊢;clear aP;generalize w3.alloc _=w4 at H3 hI U ⊢;have x0:=(zR w4 cb 0 _ _ _ U.o).trans rfl;have x1:=(zR w4 cb 1 _ _ _ U.o).trans rfl;have y0:w4.cell? ⟨b,0,none⟩=some (.int .i64 ((0:Nat):Int)):=(zR w4 b 0 _ _ _ H3.o.row).trans rfl;have y1:w4.cell? ⟨b,1,none⟩=some (.slice none 0 0):=(zR w4 b 1 _ _ _ H3.o.row).trans rfl;have yf:=fun k=>frozen_of_row w4 b k _ _ H3.o.row;simp at x0 x1;go_wp2_with fail
 go_region
 have aO:∀ W:World,Below W.heap.size W W.drew:=fun W=>⟨rfl,rfl,rfl,Nat.le_refl _,fun _ _=>rfl⟩;obtain⟨s1,g1⟩:=H3.o.set 0 (.int .i64 e);obtain⟨s2,g2⟩:=s1.set 1 (.slice A1 4 c1);have aT:=(((hI.o.grown g1 Y).grown g2 Y).keep (aO _));have s3:=s2.below (aO _);rw[show((ledX 0 (.slice none 0 0) (.slice none 0 0) 0 kb).setIfInBounds 0 (.int .i64 e)).setIfInBounds 1 (.slice A1 4 c1)=ledX e (.slice A1 4 c1) (.slice none 0 0) 0 kb from rfl] at s3;have H5:=zH s3;have Hi:=zH aT;clear x0 x1 y0 y1 yf s1 g1 s2 g2 s3 aT H3 hI U cg;generalize ((w4.setCell ⟨b,0,none⟩ (.int .i64 e)).setCell ⟨b,1,none⟩ (.slice A1 4 c1)).drew=w5 at H5 Hi ⊢;have aH:=zH Hi.o.lt;go_wp2_with fail;refine(hC6 rb 4 (by omega) _ w5 H5.o.rd).mono ?_;rintro r w6 ⟨rfl,aZ,Hm⟩;have aB:=Hm.size;have H6:=zH ((H5.o.rdr aZ Hm).rebase (base':=w5.heap.size) aB);have bK:=zH (Hi.o.grown Hm p);have b7:w.heap.size≤w5.heap.size:=H5.o.sz;clear aZ Hm aB H5 Hi;go_wp2_with fail;go_loopw [8] (fun j wr=>∃ k:Nat,k≤4∧j=.int .i64 (4 - (k:Int))∧zI (∃ A c,Own1 wr w5.heap.size 3 1 (.slice A k c) k (memV k)∧RdSt B b kb rb w5.heap.size w wr (ledX e (.slice A1 4 c1) (.slice A k c) 0 kb) (restM k++(be4 d++(beL 1 n++(keysL kv0 ks++cliL d cd rl 8)))) [])∧zI (MemN wr w.heap.size A1 c1)) (fun j _=>(intOf j).toNat)
 case atStart=>exact⟨0,by omega,rfl,zH ⟨none,0,Own1.nil _ _ _ _,H6.o⟩,bK⟩
 case round=>
  obtain⟨k,hk,rfl,z,Hp⟩:=hrel;obtain⟨A,c,E,H⟩:=z.o;by_cases hk4:k<4
  ·have n0:(0:Int)<4 - (k:Int):=by omega
   have bZ:0<(restM k++(be4 d++(beL 1 n++(keysL kv0 ks++cliL d cd rl 8)))).length:=by
    rw[hFl k hk4];simp[beL]
   obtain⟨m,S⟩:=zN ((restM k++(be4 d++(beL 1 n++(keysL kv0 ks++cliL d cd rl 8)))).length);have R:=zH (hPx rb _ wr H.rd);rw[←S] at R;have n2:(0:Int)<(m:Int):=by omega
   have ag:=zH H;have aa:=zH E;clear bZ S H E z;go_wp2_with fail;refine R.o.mono ?_;rintro r w7 ⟨rfl,Hl⟩;have h7:=ag.o.below Hl;rw[hFl k hk4,List.append_assoc] at h7;have H7:=zH h7;have ab:=zH (aa.o.below Hl);have V:=zH (Hp.o.keep Hl);have c2:w7.cell? ⟨b,2,none⟩=some (.slice A k c):=(zR w7 b 2 _ _ _ h7.row).trans rfl;have am:Below w7.heap.size w7 w7.drew:=⟨rfl,rfl,rfl,Nat.le_refl _,fun _ _=>rfl⟩;have aK:=zH (hC6 rb k (by omega) _ w7.drew (h7.rd.keep am));obtain⟨rcs,b6⟩:=h7.rd.row;have aM:=zH b6;have bu:=h7.blt;clear Hl h7 ag aa Hp R am b6;go_wp2_with fail;go_region_law (first
    |(go_simp;go_at_call 304;refine aK.o.mono ?_;rintro r w8 ⟨rfl,Z,q⟩;have Hu:w7.grownBy w8 (some rb):=⟨q.os,q.tape,q.output,q.size,q.block⟩;have u:=H7.o.rdr Z Hu;have e2:w8.cell? ⟨b,2,none⟩=some (.slice A k c):=(zR w8 b 2 _ _ _ u.row).trans rfl;have bv:=u.blt;have F:Own1 (w8.alloc (.cells #[.int .i64 k] 3)) w5.heap.size 3 1 (.slice A k c) k (memV k):=(ab.o.grown Hu aM.o (by decide)).below ((Below.refl _ _).alloc (Nat.le_refl _) _))
    |(refine hBq (by rfl) (.tmp 52) (.tmp 55) 29 (by rfl) _ 1 3 i0 _ 1 8 Tryz.underlying29 bQ.o bR.o bS.o bT.o rfl (by decide) _ _ _ (by rfl) F ⟨w8.heap.size,0,none⟩ 1 1 [_] (by rfl) (by rfl) (World.news_of_block (cs:=#[_]) (t:=3) (fr:=(0,0)) (heap_alloc_new w8 _)) (by simp[Value.oneCell']) (by unfold maxLen;omega) (by omega) ?_;intro v2 w9 G;obtain⟨VA2,VC2,rfl⟩:=hAk G.row.1;have Hb:=(u.below ((Below.refl w8.heap.size w8).alloc (Nat.le_refl _) (.cells #[.int .i64 k] 3))).app (Nat.le_trans bU b7) G F (by decide) (by decide);have t0:w9.cell? ⟨b,2,none⟩=some (.slice A k c):=(zR w9 b 2 _ _ _ Hb.row).trans rfl;have tf:=frozen_of_row w9 b 2 _ _ Hb.row))
   all_goals
    have Hh:=(u.below ((Below.refl w8.heap.size w8).alloc (Nat.le_refl _) (.cells #[.int .i64 k] 3))).sz;have ap:=((V.o.grown Hu p).keep ((Below.refl w8.heap.size w8).alloc (Nat.le_refl _) (.cells #[.int .i64 k] 3))).old aH.o (G.below F Hh);have av:=G.own1 Hh;obtain⟨s1,g1⟩:=Hb.set 2 (.slice VA2 (k+1) VC2);rw[show(ledX e (.slice A1 4 c1) (.slice A k c) 0 kb).setIfInBounds 2 (.slice VA2 (k+1) VC2)=ledX e (.slice A1 4 c1) (.slice VA2 (k+1) VC2) 0 kb from rfl] at s1;have I:=zH (ap.grown g1 Y);have ah:zI (∃ A c,Own1 (w9.setCell ⟨b,2,none⟩ (.slice VA2 (k+1) VC2)) w5.heap.size 3 1 (.slice A (k+1) c) (k+1) (memV (k+1))∧RdSt B b kb rb w5.heap.size w (w9.setCell ⟨b,2,none⟩ (.slice VA2 (k+1) VC2)) (ledX e (.slice A1 4 c1) (.slice A (k+1) c) 0 kb) (restM (k+1)++(be4 d++(beL 1 n++(keysL kv0 ks++cliL d cd rl 8)))) []):=zH ⟨VA2,VC2,by rw[hJ9];exact av.grown g1 Hb.row (by decide),s1⟩;clear Hh ap av s1 g1 G F Z q Hu u Hb e2 t0 tf bv;generalize w9.setCell ⟨b,2,none⟩ (.slice VA2 (k+1) VC2)=w10 at ah I ⊢;clear c2 aK H7 ab V aM bu;have qn:(4:Int) - (k:Int) - 1=4 - ((k+1:Nat):Int):=by omega
    have q0:(k:Int)<4:=by omega
    have q1:(0:Int)≤(k:Int):=by omega
    go_wp2_with fail;exact⟨⟨k+1,by omega,by go_num,ah,I⟩,by simp[intOf];omega⟩
  ·obtain rfl:k=4:=by omega
   clear hk4;have ao:=hIx E.row;have H7:=zH (show RdSt B b kb rb w5.heap.size w wr (ledX e (.slice A1 4 c1) (.slice A 4 c) 0 kb) (be4 d++(beL 1 n++(keysL kv0 ks++cliL d cd rl 8))) [] from H);have aJ:=zH (ao.lower b7);have V:=Hp;have hz:¬ (0:Int)<4 - ((4:Nat):Int):=by omega
   clear ao z E H Hp aH;go_wp2_with fail;refine(hPy rb d (by omega) _ wr H7.o.rd).mono ?_;rintro r w8 ⟨rfl,Z,q⟩;have u:=H7.o.rdr Z q;have c3:w8.cell? ⟨b,3,none⟩=some (.int .i64 ((0:Nat):Int)):=(zR w8 b 3 _ _ _ u.row).trans rfl;have f3:=frozen_of_row w8 b 3 _ _ u.row;obtain⟨s1,g1⟩:=u.set 3 (.int .i64 d);rw[show(ledX e (.slice A1 4 c1) (.slice A 4 c) 0 kb).setIfInBounds 3 (.int .i64 d)=ledX e (.slice A1 4 c1) (.slice A 4 c) d kb from rfl] at s1;have H8:=zH s1;have hJ:=zH ((V.o.grown q p).grown g1 Y);have Hj:=zH ((aJ.o.grown q p).grown g1 Y);clear Z q u s1 g1 H7 aJ V;go_wp2_with fail;clear c3 f3;generalize w8.setCell ⟨b,3,none⟩ (.int .i64 d)=w9 at H8 hJ Hj ⊢;have N:=H8.o.blt;have c0:w9.cell? ⟨b,0,none⟩=some (.int .i64 e):=(zR w9 b 0 _ _ _ H8.o.row).trans rfl;have c2:w9.cell? ⟨b,2,none⟩=some (.slice A 4 c):=(zR w9 b 2 _ _ _ H8.o.row).trans rfl;have c3:w9.cell? ⟨b,3,none⟩=some (.int .i64 d):=(zR w9 b 3 _ _ _ H8.o.row).trans rfl;have u0:=fun y:Bel w9.heap.size w9=>y.cell N c0;have u2:=fun y:Bel w9.heap.size w9=>y.cell N c2;have u3:=fun y:Bel w9.heap.size w9=>y.cell N c3;have aL:=fun y:Bel w9.heap.size w9=>zH (right4 0 (by omega) A c y.w (Hj.o.1.keep y.h));have p1:¬ (d:Int)<(e:Int)*4:=by omega
   have p2:¬ ((e:Int)+1)*4<(d:Int):=by omega
   have p3:(0:Int)≤(e:Int):=by omega
   have p4:(e:Int)≤60:=by omega
   refine hAg w9.heap.size w9 (by kernel_rfl) (by kernel_rfl) (Below.refl _ _) ?_;repeat (go_big_quiet_step ((go_at_call 19;exact hAq (Nat.le_refl _) (aL _).o)))
   refine wpQuiet_nil ?_;rintro _ ⟨y,rfl⟩;have H9:=zH (H8.o.below y.h);have I:=zH (hJ.o.keep y.h);have hU:=zH (Hj.o.keep y.h);clear u0 u2 u3 aL c0 c2 c3 N H8 hJ Hj p1 p2;generalize y.w=w10 at H9 I hU ⊢;go_wp2_with fail;refine(hC6 rb n (by omega) _ w10 H9.o.rd).mono ?_;rintro r w11 ⟨rfl,aw,O⟩;have bE:=zH (H9.o.rdr aw O);have bm:=zH (I.o.grown O p);have bp:=zH (hU.o.grown O p);have n16:¬ (16:Int)<(n:Int):=by omega
   clear aw O H9 I hU;go_wp2_with fail;go_loopw [10,11,12,101] (fun _ _ _ j wr=>∃ k:Nat,k≤n∧j=.int .i64 k∧zI (RdSt B b kb rb w5.heap.size w wr (ledX e (.slice A1 4 c1) (.slice A 4 c) d kb) (keysL kv0 (ks.drop k)++cliL d cd rl 8) (backK kv0 (ks.take k)))∧zI (MemN wr w.heap.size A1 c1)∧zI (MemN wr w.heap.size A c)) (fun _ _ _ j _=>n - (intOf j).toNat)
   case atStart=>exact⟨0,by omega,rfl,bE,bm,bp⟩
   case round=>
    obtain⟨k,hk,rfl,z,S,au⟩:=hrel;have q0:(0:Int)≤(k:Int):=by omega
    by_cases hkn:k<n
    ·have q1:(k:Int)<(n:Int):=by omega
     obtain⟨x,ba,aD,bd,bg⟩:=aI.o k hkn;have s:=hQq kv0 ks k (by rw[J.o];exact hkn);have D:=hP9 kv0 ks k (by rw[J.o];exact hkn);have an:=hOh (kv:=kv0) bP.o k (by rw[J.o];exact hkn);rw[ba] at s D;generalize hK:bs (ks.getD k [])=K at s D an;have cp:1≤K.size:=by rw[←hK,hA3];exact bd
     have cu:K.size≤16:=by rw[←hK,hA3];exact bg
     have s:keysL kv0 (ks.drop k)=txL K++(be8 x++keysL kv0 (ks.drop (k+1))):=by rw[s];show _++(be8 (canon x)++_)=_;rw[aD.1]
     have C:=z.o;rw[s,List.append_assoc,List.append_assoc] at C;have v:=zH C;have bH:=zH D;have bJ:=zH an;have aN:=zH aD;have tn0:¬ K.toList=[]:=fun e=>by
      have h:=congrArg List.length e;rw[Lib.toList_data,hBd,List.length_nil] at h;omega
     have tne:K.toList.isEmpty=false:=by
      cases h:K.toList with
      |nil=>exact absurd h tn0
      |cons a l=>rfl
     have q3:¬ (16:Int)<(K.size:Int):=by omega
     clear C s D an ba aD bd bg z hK;go_wp2_with fail;refine(hJt rb K (by omega) _ wr v.o.rd).mono ?_;rintro r w12 ⟨rfl,ax,f⟩;have Hy:=zH (v.o.rdr ax f);have L:=zH (S.o.grown f p);have M:=zH (au.o.grown f p);clear ax f S au v;go_wp2_with fail;refine(hPw rb x aN.o.2 _ w12 Hy.o.rd).mono ?_;rintro r w13 ⟨rfl,ay,P⟩;have T:=zH (Hy.o.rdr ay P);have HJ:=zH (L.o.grown P p);have hO:=zH (M.o.grown P p);clear ay P Hy L M;go_wp2_with fail;refine(hSr x aN.o.1 w13).mono ?_;rintro r wx ⟨rfl,rfl⟩;have c4:w13.cell? ⟨b,4,none⟩=some (.map (some kb)):=(zR w13 b 4 _ _ _ T.o.row).trans rfl;obtain⟨w14,cn,Hg,Q⟩:=hAs hBa Tryz.underlying163 T.o.mp (hGu K (by unfold maxLen;omega)) (.float .f64 x) (hGs (hCu bJ.o).1);rw[show encK (backK kv0 (ks.take k))++[(Value.string K,Value.float .f64 x)]=encK (backK kv0 (ks.take (k+1))) by rw[bH.o,hBr];rfl] at Hg;have bG:=zH (T.o.put Hg Q);have bo:=zH (HJ.o.grown Q (by have:=T.o.o2;omega));have bq:=zH (hO.o.grown Q (by have:=T.o.o2;omega));clear Hg Q HJ hO;go_wp2_with fail;exact⟨⟨k+1,by omega,by go_num,bG,bo,bq⟩,by simp[intOf];omega⟩
    ·obtain rfl:k=n:=by omega
     clear hkn;have C:=z.o;rw[←J.o,List.drop_length,List.take_length] at C;have bY:=C.mp.len Tryz.underlying163 3;rw[show(encK (backK kv0 ks)).length=k by simp[encK,backK,J.o]] at bY;have c4:wr.cell? ⟨b,4,none⟩=some (.map (some kb)):=(zR wr b 4 _ _ _ C.row).trans rfl;have bI:=zH (hM8 b rb e A1 c1 A c d kb cd rl hd bL.o bM.o bD.o (by omega) wr C.row C.rd);have v:=zH C;clear C z;go_wp2_with fail;refine bI.o.mono ?_;rintro r w12 ⟨rfl,Ha,f⟩;have Hq:=v.o.mp.move (f.block kb v.o.mp.lt (by omega) (by omega));have ai:Below B w w12:=v.o.bel.trans ⟨f.os,f.tape,f.output,f.size,fun X hX=>f.block X (by have:=v.o.bel.size;have:=v.o.Bw;omega) (by omega) (by omega)⟩;have ar:∀ {A:Option Addr} {c:Nat},MemN wr w.heap.size A c→MemN w12 w.heap.size A c:=fun {A c} h=>by
      obtain⟨⟨k1,k2,g,off,k3,k4,k5⟩,k6⟩:=h;have:=k6 _ k3;refine⟨⟨k1,k2,g,off,k3,Nat.lt_of_lt_of_le k4 f.size,fun i hi=>?_⟩,k6⟩;have h:=k5 i hi;unfold World.cell? at h ⊢;simp only at this;rw[f.block g k4 (by omega) (by omega)];exact h
     have L:=zH (ar S.o);have M:=zH (ar au.o);have br:=zH Ha;have aG:=zH Hq;have bl:=zH ai;clear Ha f Hq ai ar;go_wp2_with fail;go_ret;exact⟨rfl,⟨A1,c1,A,c,br.o,L.o,M.o⟩,⟨_,aG.o,bN.o⟩,bl.o⟩
end Go.Proofs.YtlibpcllceepkaaGreat
