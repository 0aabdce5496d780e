/- Joined texts of the claim. No condition. -/
import Derived.Test.YtlibpcllceepkaaGreatB03
import Derived.MapKept
namespace Go.Proofs.YtlibpcllceepkaaGreat
open Go.RowKit
set_option maxRecDepth 100000
set_option linter.unusedVariables false
set_option linter.unusedSimpArgs false
set_option maxHeartbeats 16000000
def LinkD (w:World) (o:Tags) (LA:Option Addr) (lc:Nat) (bys:List Nat):Prop:=
 1≤lc∧lc≤maxLen∧∃ b off A c B n d,LA=some ⟨b,off,none⟩∧b<w.heap.size∧o b=0 ∧
  w.cell? ⟨b,off,none⟩=some (.int .i64 1)∧w.cell? ⟨b,off+1,none⟩=some (.slice A 4 c)∧w.cell? ⟨b,off+2,none⟩=some (.slice B n d) ∧
  MemD w o A c∧SlD encS w o B n d (sgl bys (confT 1))∧Qu bys
theorem LinkD.fix {P:Nat→Prop} {o o':Tags} {w w':World} {LA:Option Addr} {lc:Nat} {bys:List Nat} (h:LinkD w o LA lc bys) (f:Fix P o o' w w') (e:P 0):LinkD w' o' LA lc bys:=by
 obtain⟨i,j,b,off,A,c,B,n,d,rfl,g,a,k0,k1,k2,k,m,l⟩:=h;obtain⟨t1,t2⟩:=f.block b g (by rw[a];exact e);refine⟨i,j,b,off,A,c,B,n,d,rfl,Nat.lt_of_lt_of_le g f.size,by rw[t1];exact a,?_,?_,?_,k.fix f e,m.fix f e,l⟩;all_goals (unfold World.cell? at k0 k1 k2 ⊢;rw[t2];assumption)
theorem equal4 (A:Option Addr) (c:Nat) (A':Option Addr) (c':Nat) (w:World) (h:Mem w A c) (n:Mem w A' c'):Calls Tryz.prog 205 #[.slice A 4 c,.slice A' 4 c'] w fun e w'=>e=.returned (.bool true)∧∃ m,w'=w.drewN m:=by
 obtain⟨r,p,b,off,rfl,s,g⟩:=h;obtain⟨g1,g2,b',off',rfl,g4,g5⟩:=n;have i:=zH g;have l:=zH g5;clear g g5;unfold maxLen at p g2;go_enter Tryz.func205,Tryz.ntmps205;go_wp2_with fail;go_loopw [5,13] (fun _ j wr=>∃ k:Nat,k≤4∧j=.int .i64 k∧zI (∃ m,wr=w.drewN m)) (fun _ j _=>4 - (intOf j).toNat)
 case atStart=>exact⟨0,by omega,rfl,zH ⟨0,rfl⟩⟩
 case round=>
  obtain⟨k,t,rfl,f⟩:=hrel;obtain⟨m,rfl⟩:=f.o;by_cases hk4:k<4
  ·have n0:(0:Int)≤(k:Int):=by omega
   have n1:(k:Int)<4:=by omega
   have hc:(w.drewN m).cell? ⟨b,off+k,none⟩=some (.int .i64 k):=i.o k hk4;have q:(w.drewN m).cell? ⟨b',off' + k,none⟩=some (.int .i64 k):=l.o k hk4;clear f;generalize a:w.drewN m=wx at hc q ⊢;have d:=zH a;clear a;go_wp2_with fail;go_quiet (fail)
   go_wp2_with fail;exact⟨⟨k+1,by omega,by go_num,zH ⟨m+nq,by rw[←d.o,World.drewN_drewN]⟩⟩,by simp[intOf];omega⟩
  ·obtain rfl:k=4:=by omega
   clear hk4;generalize a:w.drewN m=wx at ⊢;have d:=zH a;clear a f;go_wp2_with fail;go_ret;exact⟨rfl,m,d.o.symm⟩
theorem hNz (T:Nat) (ch:List (List Nat)) (F:ch.length≤1) (i:Nat) (o:Tags) (LA:Option Addr) (lc:Nat) (bys:List Nat) (w:World) (h:TrAt w o i T ch) (hl:LinkD w o LA lc bys) :
  Calls Tryz.prog 201 #[.pointer (some ⟨T,0,none⟩),.slice LA 1 lc] w fun e w'=>e=.returned (.int .i64 (if ch.length=0 then 0 else 17))∧Below w.heap.size w w':=by
 obtain⟨⟨CA,CC,SA,SC,cs,ss,K,c1,c2,c3,s2,s3⟩⟩:=h;obtain⟨L,hL⟩:∃ L,ch.length=L:=⟨_,rfl⟩;rw[hL] at F K c1 c3 s3 ⊢;clear s2 s3;obtain⟨l1,l2,b,off,A,c,B,n,d,rfl,s,_,k0,k1,k2,hm,N,hq⟩:=hl;obtain⟨⟨XA,XC⟩,X⟩:∃ x,x=cs.getD 0 (none,0):=⟨_,rfl⟩;have u:(XA,XC)∈cs:=by
  rw[X,List.getD_eq_getElem?_getD,List.getElem?_eq_getElem (by omega)];exact List.getElem_mem _
 have U:=(c2 (XA,XC) u).1;obtain⟨g0,g1⟩:=hBy cs 0 0 (by omega);rw[←X] at g1;have hY:zI (L=1→∃ YA YC,Mem w YA YC∧(confCells 0 cs)[3]?=some (.slice YA 4 YC)):=zH (fun C=>by
  obtain⟨y0,y1⟩:=hBy cs 0 1 (by omega);have u:cs.getD 1 (none,0)∈cs:=by
   rw[List.getD_eq_getElem?_getD,List.getElem?_eq_getElem (by omega)];exact List.getElem_mem _
  exact⟨_,_,(c2 _ u).1,y1⟩)
 rcases c3.1.2 with⟨_,h0⟩ | ⟨g,cap,cur,hv,_,hg,Hy,Hg,_⟩
 ·omega
 injection hv with e1 _ e3;subst e1;subst e3;have x0:=World.ownsRow.cells c3.1 (g:=g) rfl 0 _ g0;have x1:=World.ownsRow.cells c3.1 (g:=g) rfl 1 _ g1;rw[hAl] at x0 x1;have Hi:=(zL hg);have cc0:=zR w T 0 _ _ _ K.1;simp at cc0 x0 x1;have S:=K.lt;have Ha:zI (L=1→∃ YA YC,Mem w YA YC∧w.cell? ⟨g,3,none⟩=some (.slice YA 4 YC)):=zH (fun C=>by
  obtain⟨YA,YC,y1,y2⟩:=hY.o C;have:=World.ownsRow.cells c3.1 (g:=g) rfl 3 _ y2;rw[hAl,Nat.zero_add] at this;exact⟨YA,YC,y1,this⟩)
 have Y:=zH hm.1;have HX:=zH U;have HS:=zH N;have HV:=fun w (h:Mem w XA XC) (h':Mem w A c) (N:SlD encS w o B n d (sgl bys (confT 1)))=>zH (hP2 0 (by decide) XA XC A c bys hq B n d o w h h' N);have hI:=zH F;unfold maxLen at Hg l2;have l:Below w.heap.size w (w.alloc (.cells #[.int .i64 0,.slice XA 4 XC] 31)):=(Below.refl _ _).alloc (Nat.le_refl _) _;have O:=zH l;have C:=zH (heap_alloc_new w (.cells #[.int .i64 0,.slice XA 4 XC] 31));clear l K c1 c2 c3 X u g0 g1 hY hg hm U N hq hL;obtain⟨r0,I⟩:=zN (if L=0 then 0 else 17:Int);rw[←I];have R:=zH I;clear I;have J:=zH (show L=0∨L=1 by omega);have n0:(0:Int)<(L:Int)+1:=by omega
 have n1:(L:Int)+1≤2:=by omega
 clear F;go_enter Tryz.func201,Tryz.ntmps201;go_wp2_with fail;generalize w.alloc (.cells #[.int .i64 0,.slice XA 4 XC] 31)=w0 at O C ⊢;have hJ:w.heap.size<w0.heap.size:=(zL C.o);clear x0 x1;go_loopw [7,8,19] (fun _ _ j wr=>∃ k:Nat,k≤1∧j=.int .i64 k∧zI (Below w.heap.size w wr)∧zI (∃ a0 a1,wr.heap[w.heap.size]?=some (.cells #[.int .i64 a0,.slice a1 4 (if k=0 then XC else c)] 31 (0,0))∧(k=0→a0=0∧a1=XA))) (fun _ _ j _=>1 - (intOf j).toNat)
 case atStart=>exact⟨0,by omega,rfl,O,zH ⟨0,XA,C.o,fun _=>⟨rfl,rfl⟩⟩⟩
 case round=>
  obtain⟨k,W,rfl,a,v⟩:=hrel;by_cases hk1:k=0
  ·subst hk1;obtain⟨a0,a1,M,ha⟩:=v.o;obtain⟨rfl,rfl⟩:=ha rfl;rw[if_pos rfl] at M;have d0:=(a.o.cell (p:=⟨b,off,none⟩) s).trans k0;have d1:=(a.o.cell (p:=⟨b,off+1,none⟩) s).trans k1;have d2:=(a.o.cell (p:=⟨b,off+2,none⟩) s).trans k2;have l:Below wr.heap.size wr (wr.alloc (.cells #[.int .i64 1,.slice A 4 c,.slice B n d] 120)):=(Below.refl _ _).alloc (Nat.le_refl _) _;have V:w.heap.size<wr.heap.size:=(zL M);have z:=(l.block _ V).trans M;have m0:=zR _ w.heap.size 0 _ _ _ z;have m1:=zR _ w.heap.size 1 _ _ _ z;simp only[Array.getElem?_toList,List.getElem?_toArray,List.getElem?_cons_zero,List.getElem?_cons_succ] at m0 m1;have E:=zH z;have q:=zH (heap_alloc_new wr (.cells #[.int .i64 1,.slice A 4 c,.slice B n d] 120));have H:wr.heap.size<(wr.alloc (.cells #[.int .i64 1,.slice A 4 c,.slice B n d] 120)).heap.size:=by simp
   have f:=zH (zB a.o l);clear l z M v ha a;go_wp2_with fail;generalize wr.alloc (.cells #[.int .i64 1,.slice A 4 c,.slice B n d] 120)=w2 at E q H f ⊢;clear m0 m1;refine(HV w2 (HX.o.keep f.o) (Y.o.keep f.o) (HS.o.fix (Fix.same (P:=fun _=>True) f.o) trivial)).o.mono ?_;rintro r w3 ⟨rfl,y⟩;have t:=(y.block _ (Nat.lt_trans V H)).trans E.o;have G:=(y.block _ H).trans q.o;have Q:=zH (zB f.o y);have Z:=zH t;have m0:=zR w3 wr.heap.size 0 _ _ _ G;have m1:=zR w3 wr.heap.size 1 _ _ _ G;have p0:=zR w3 w.heap.size 0 _ _ _ t;have p1:=zR w3 w.heap.size 1 _ _ _ t;have f0:=frozen_of_row w3 w.heap.size 0 _ _ t;have f1:=frozen_of_row w3 w.heap.size 1 _ _ t;simp at m0 m1 p0 p1;clear t G y E q f d0 d1 d2;go_wp2_with fail;obtain⟨Hl,Hm⟩:=hAz w3 w.heap.size _ _ _ (.int .i64 1) (.slice A 4 c) Z.o;exact⟨⟨1,by omega,rfl,zH (Q.o.grown Hm Q.o.size (fun kk W=>by have h:=Option.some.inj W;omega)),zH ⟨1,A,by rw[if_neg (by omega)];exact Hl,fun h=>by cases h⟩⟩,by decide⟩
  ·obtain rfl:k=1:=by omega
   clear hk1 v;go_wp2_with fail;have Hq:w.heap.size≤wr.heap.size:=a.o.size;go_loopw [9,10,34] (fun _ _ j w2=>∃ k:Nat,k≤1∧j=.int .i64 k∧zI (Below w.heap.size w w2)) (fun _ _ j _=>1 - (intOf j).toNat)
   case atStart=>exact⟨0,by omega,rfl,a⟩
   case round=>
    clear a Hq;obtain⟨k,W,rfl,a⟩:=hrel;by_cases hk1:k=0
    ·subst hk1;have d0:=(a.o.cell (p:=⟨b,off,none⟩) s).trans k0;have d1:=(a.o.cell (p:=⟨b,off+1,none⟩) s).trans k1;have d2:=(a.o.cell (p:=⟨b,off+2,none⟩) s).trans k2;have l:Below wr.heap.size wr (wr.alloc (.cells #[.int .i64 1,.slice A 4 c,.slice B n d] 120)):=(Below.refl _ _).alloc (Nat.le_refl _) _;have q:=zH (heap_alloc_new wr (.cells #[.int .i64 1,.slice A 4 c,.slice B n d] 120));have f:=zH (zB a.o l);have D:=J.o;clear l a J;go_wp2_with fail;generalize wr.alloc (.cells #[.int .i64 1,.slice A 4 c,.slice B n d] 120)=w2 at q f ⊢;have t0:=(f.o.cell (p:=⟨T,0,none⟩) S).trans cc0;have m1:=zR w2 wr.heap.size 1 _ _ _ q.o;simp at m1;clear d0 d1 d2;rcases D with rfl | rfl
     ·go_quiet (fail)
      go_wp2_with fail;exact⟨⟨1,by omega,rfl,zH (hAc f.o nq)⟩,by decide⟩
     ·obtain⟨YA,YC,hy,y3⟩:=Ha.o rfl;have y3':=(f.o.cell (p:=⟨g,3,none⟩) Hi).trans y3;have HE:=fun m=>zH (equal4 YA YC A c (w2.drewN m) (hy.keep (hAc f.o m)) (Y.o.keep (hAc f.o m)));clear y3 hy;go_quiet ((go_at_call 205;exact Calls.quiet_of (HE _).o))
      go_wp2_with fail;exact⟨⟨1,by omega,rfl,zH (hAc f.o nq)⟩,by decide⟩
    ·obtain rfl:k=1:=by omega
     have t0:=(a.o.cell (p:=⟨T,0,none⟩) S).trans cc0;have D:=J.o;clear hk1 J;rcases D with rfl | rfl
     ·go_wp2_with fail;go_ret;exact⟨by rw[R.o];rfl,a.o⟩
     ·go_wp2_with fail;go_ret;exact⟨by rw[R.o];rfl,a.o⟩
theorem hWr (T:Nat) (b0:List Nat) (i:Nat) (o:Tags) (LA:Option Addr) (lc:Nat) (bys:List Nat) (w:World) (h:TrAt w o i T [b0]) (c:LinkD w o LA lc bys) :
  Calls Tryz.prog 197 #[.pointer (some ⟨T,0,none⟩),.slice LA 1 lc] w fun e w'=>e=.returned (.int .i64 17)∧Below w.heap.size w w':=by
 have a:=zH (hNz T [b0] (by simp) i o LA lc bys w h c);rw[if_neg (by simp)] at a;clear h c;go_enter Tryz.func197,Tryz.ntmps197;go_wp2_with fail;refine a.o.mono ?_;rintro e w1 ⟨rfl,b⟩;have d:=zH b;clear b;go_wp2_with fail;go_ret;exact⟨rfl,d.o⟩
theorem hWq (T:Nat) (i:Nat) (f:i≠0) (o:Tags) (LA:Option Addr) (lc:Nat) (bys:List Nat) (w:World) (h:TrAt w o i T []) (N:LinkD w o LA lc bys) :
  Calls Tryz.prog 197 #[.pointer (some ⟨T,0,none⟩),.slice LA 1 lc] w fun e w'=>e=.returned (.int .i64 0)∧∃ o',TrAt w' o' i T [bys]∧Chg i o o' w w':=by
 have K:=zH (hNz T [] (by decide) i o LA lc bys w h N);rw[if_pos (by decide)] at K;have H:=zH h;have R:=zH N;clear h N;go_enter Tryz.func197,Tryz.ntmps197;go_wp2_with fail;refine K.o.mono ?_;rintro e w1 ⟨rfl,L⟩;have l:Fix (fun _=>True) o o w w1:=Fix.same L;have F:Chg i o o w w1:=Chg.below L (fun _ _=>rfl);have v:=zH (R.o.fix l trivial);obtain⟨⟨CA,CC,SA,SC,cs,ss,a,c1,c2,c3,s2,s3⟩⟩:=H.o.fix l trivial trivial;simp only[List.length_nil,Nat.zero_add] at a c1 c3;rcases c3.1.2 with⟨_,Z⟩ | ⟨g,cap,cur,hv,_,hg,M,I,_⟩
 ·cases Z
 injection hv with e1 _ e3;subst e1;subst e3;have t0:=zR w1 T 0 _ _ _ a.1;have t1:=zR w1 T 1 _ _ _ a.1;have f0:=frozen_of_row w1 T 0 _ _ a.1;have f1:=frozen_of_row w1 T 1 _ _ a.1;simp at t0 t1;obtain⟨q1,q2,q3⟩:=a.set 0 (.slice (some ⟨g,0,none⟩) 1 CC);obtain⟨q4,q5,q6⟩:=q1.set 1 (.slice none 0 0);have E:TrAt ((w1.setCell ⟨T,0,none⟩ (.slice (some ⟨g,0,none⟩) 1 CC)).setCell ⟨T,1,none⟩ (.slice none 0 0)) o i T []:=
  ⟨⟨some ⟨g,0,none⟩,CC,none,0,cs,[],q4,c1,fun x hx=>((c2 x hx).fix (q3.fix (P:=(· = 0)) f) rfl).fix (q6.fix (P:=(· = 0)) f) rfl,(c3.set a (by decide) q2).set q1 (by decide) q5,trivial,Row.nil _ _ _ _ _⟩⟩
 have q:=zH ((v.o.fix (q3.fix (P:=(· = 0)) f) rfl).fix (q6.fix (P:=(· = 0)) f) rfl);have t:=zH ((F.trans q3).trans q6);have C:=zH E;have V:(1:Int)≤(CC:Int):=by omega
 have Hc:CC≤9223372036854775807:=I;clear L l F v a c1 c2 c3 s2 s3 hg q1 q2 q3 q4 q5 q6 E K H R M I;go_wp2_with fail;generalize (w1.setCell ⟨T,0,none⟩ (.slice (some ⟨g,0,none⟩) 1 CC)).setCell ⟨T,1,none⟩ (.slice none 0 0)=w3 at q t C ⊢;clear t0 t1 f0 f1;obtain⟨l1,l2,b,off,A,c,B,n,d,rfl,Hi,Hj,k0,k1,k2,r,s,U⟩:=q.o;have X:=zH r;have Y:=zH s;have W:=fun w o (h:TrAt w o i T []) (r:Mem w A c) (s:SlD encS w o B n d (sgl bys (confT 1)))=>zH (hP1 T [] (by decide) i f o A c B n d bys U w h r s);unfold maxLen at l2;clear r s U q;go_loopw [7,32] (fun _ j wr=>∃ k:Nat,k≤1∧j=.int .i64 k∧zI (k=0→w3=wr)∧zI (k=1→∃ o',TrAt wr o' i T [bys]∧Chg i o o' w wr)) (fun _ j _=>1 - (intOf j).toNat)
 case atStart=>exact⟨0,by omega,rfl,zH (fun _=>rfl),zH (fun h=>by cases h)⟩
 case round=>
  obtain⟨k,hk,rfl,O,p⟩:=hrel;by_cases hk1:k=0
  ·subst hk1;obtain rfl:=O.o rfl;have m:Below w3.heap.size w3 (w3.alloc (.cells #[.int .i64 1,.slice A 4 c,.slice B n d] 120)):=(Below.refl _ _).alloc (Nat.le_refl _) _;have l:Fix (fun _=>True) o o w3 (w3.alloc (.cells #[.int .i64 1,.slice A 4 c,.slice B n d] 120)):=Fix.same m;have D:=zH (C.o.fix l trivial trivial);have z:=zH (Y.o.fix l trivial);have u:=zH (t.o.trans (Chg.below m (fun _ _=>rfl)));have y:=zH (X.o.1.keep m);clear O p m l;go_wp2_with fail;generalize w3.alloc (.cells #[.int .i64 1,.slice A 4 c,.slice B n d] 120)=w4 at D z u y ⊢;refine(W w4 o D.o y.o z.o).o.mono ?_;rintro e w5 ⟨rfl,o',J,G⟩;have S:=zH J;have Q:=zH G;clear J G;go_wp2_with fail;exact⟨⟨1,by omega,rfl,zH (fun h=>by cases h),zH (fun _=>⟨o',S.o,u.o.trans Q.o⟩)⟩,by decide⟩
  ·obtain rfl:k=1:=by omega
   clear hk1 O;go_wp2_with fail;go_ret;obtain⟨o',h1,h2⟩:=p.o (by first | rfl | trivial);exact⟨rfl,o',h1,h2⟩
theorem hZr (T:Nat) (i:Nat) (Q:i≠0) (o:Tags) (A:Option Addr) (c:Nat) (B:Option Addr) (n d:Nat) (bys:List Nat) (S:Qu bys) (w:World) (h:TrAt w o i T []) (R:Mem w A c) (U:SlD encS w o B n d (sgl bys (confT 1))) :
  Calls Tryz.prog 285 #[.pointer (some ⟨T,0,none⟩),.agg #[.int .i64 1,.slice A 4 c,.slice B n d]] w fun e w'=>e=.returned (.int .i64 0)∧∃ o',TrAt w' o' i T [bys]∧Chg i o o' w w':=by
 obtain⟨oA,m⟩:=zN (o.ext w.heap.size 0:Tags);have a:Below w.heap.size w (w.alloc (.cells #[.int .i64 1,.slice A 4 c,.slice B n d] 120)):=(Below.refl _ _).alloc (Nat.le_refl _) _;have k:∀ b,b<w.heap.size→oA b=o b:=fun b G=>by rw[m];exact Tags.ext_old _ _ _ _ G
 have H:Fix (fun _=>True) o oA w (w.alloc (.cells #[.int .i64 1,.slice A 4 c,.slice B n d] 120)):=Fix.below a k;have r:=zH (Chg.below (i:=i) a k);have F:=zH (h.fix H trivial trivial);have E:=zH (U.fix H trivial);have D:=zH (R.keep a);have j:=zH (heap_alloc_new w (.cells #[.int .i64 1,.slice A 4 c,.slice B n d] 120));have Hb:zI (∀ b,w.heap.size≤b→oA b=0):=zH (fun b G=>by rw[m];exact Tags.ext_new _ _ _ _ G);clear h R U m H k a;go_enter Tryz.func285,Tryz.ntmps285;go_wp2_with fail;generalize w.alloc (.cells #[.int .i64 1,.slice A 4 c,.slice B n d] 120)=w0 at r F E D j ⊢;obtain⟨⟨CA,CC,SA,SC,cs,ss,f,c1,c2,c3,s2,s3⟩⟩:=F.o;simp only[List.length_nil,Nat.zero_add] at f c1 c3;obtain⟨⟨XA,XC⟩,I⟩:∃ x,x=cs.getD 0 (none,0):=⟨_,rfl⟩;have l:(XA,XC)∈cs:=by
  rw[I,List.getD_eq_getElem?_getD,List.getElem?_eq_getElem (by omega)];exact List.getElem_mem _
 have z:=(c2 (XA,XC) l).1;obtain⟨g0,g1⟩:=hBy cs 0 0 (by omega);rw[←I] at g1;rcases c3.1.2 with⟨_,X⟩ | ⟨g,cap,cur,hv,_,O,Y,u,_⟩
 ·cases X
 injection hv with e1 _ e3;subst e1;subst e3;have x0:=World.ownsRow.cells c3.1 (g:=g) rfl 0 _ g0;have x1:=World.ownsRow.cells c3.1 (g:=g) rfl 1 _ g1;rw[hAl] at x0 x1;have v:=(zL O);have N:=f.lt;have p:w.heap.size<w0.heap.size:=(zL j.o);have cc0:=zR w0 T 0 _ _ _ f.1;have m0:=zR w0 w.heap.size 0 _ _ _ j.o;have m1:=zR w0 w.heap.size 1 _ _ _ j.o;have m2:=zR w0 w.heap.size 2 _ _ _ j.o;simp at cc0 x0 x1 m0 m1 m2;have y0:=fun y:Bel w0.heap.size w0=>y.cell N cc0;have y1:=fun y:Bel w0.heap.size w0=>y.cell v x0;have y2:=fun y:Bel w0.heap.size w0=>y.cell v x1;have y3:=fun y:Bel w0.heap.size w0=>y.cell p m0;have y4:=fun y:Bel w0.heap.size w0=>y.cell p m1;have y5:=fun y:Bel w0.heap.size w0=>y.cell p m2;have M:=fun y:Bel w0.heap.size w0=>zH (hP2 0 (by decide) XA XC A c bys S B n d oA y.w (z.keep y.h) (D.o.keep y.h) (E.o.fix (Fix.same (P:=fun _=>True) y.h) trivial));have Z:CC≤9223372036854775807:=u;have V:(1:Int)≤(CC:Int):=by omega
 clear f c1 c2 c3 s2 s3 I l z g0 g1 O u;refine hAg w0.heap.size w0 (by kernel_rfl) (by kernel_rfl) (Below.refl _ _) ?_;repeat (go_big_quiet_step ((go_at_call 204;exact hAq (Nat.le_refl _) (M _).o)))
 refine wpQuiet_nil ?_;rintro _ ⟨y,rfl⟩;have W:=zH y.h;have z0:=y3 y;have z1:=y4 y;have z2:=y5 y;have s:=zH (F.o.fix (Fix.same (P:=fun _=>True) y.h) trivial trivial);have K:=zH (hP1 T [] (by decide) i Q oA A c B n d bys S y.w s.o (D.o.keep y.h) (E.o.fix (Fix.same (P:=fun _=>True) y.h) trivial));have q:=zH (r.o.trans (Chg.below y.h (fun _ _=>rfl)));clear y0 y1 y2 y3 y4 y5 M cc0 x0 x1 m0 m1 m2;generalize y.w=w1 at W z0 z1 z2 s K q ⊢;go_wp2_with fail;refine K.o.mono ?_;rintro e w5 ⟨rfl,o',C,t⟩;have L:=zH C;have J:=zH t;clear C t;go_wp2_with fail;go_ret;exact⟨rfl,o',L.o,q.o.trans J.o⟩
def asc:List (Int×Value)→Int→Option Value
 |[],_=>none
 |p::r,x=>if p.1=x then some p.2 else asc r x
def Ent (es:List MapEntry) (l:List (Int×Value)):Prop:=es.map (fun e=>(e.key,e.val))=l.map (fun p=>(Value.int .i64 p.1,p.2))
def MpI (w:World) (b:Nat) (l:List (Int×Value)):Prop:=∃ es clock,w.heap[b]?=some (.map es clock)∧Ent es.toList l
theorem MpI.lt {w:World} {b:Nat} {l:List (Int×Value)} (h:MpI w b l):b<w.heap.size:=by
 obtain⟨es,cl,a,_⟩:=h;exact(zL a)
theorem hDn (x:Int):∀ (es:List MapEntry) (l:List (Int×Value)) (i:Nat),Ent es l →
  (asc l x=none→Instr.findNow (.int .i64) (.int .i64 x) es i=some none)∧(∀ v,asc l x=some v→∃ j,Instr.findNow (.int .i64) (.int .i64 x) es i=some (some (j,v)))
 |[],[],i,_=>⟨fun _=>rfl,fun v h=>by cases h⟩
 |[],p::r,i,h=>by simp[Ent] at h
 |e::es,[],i,h=>by simp[Ent] at h
 |e::es,p::r,i,h=>by
  simp only[Ent,List.map_cons,List.cons.injEq,Prod.mk.injEq] at h;obtain⟨⟨c,d⟩,f⟩:=h;have ih:=hDn x es r (i+1) f;by_cases hx:p.1=x
  ·subst hx;refine⟨fun h=>by simp[asc] at h,fun v a=>⟨i,?_⟩⟩;simp only[asc,if_true,Option.some.injEq] at a;simp[Instr.findNow,Instr.sameNow,c,d,a]
  ·have b:(x == p.1)=false:=beq_eq_false_iff_ne.2 (fun e=>hx e.symm);refine⟨fun h=>?_,fun v a=>?_⟩
   ·simp only[asc,hx,if_false] at h;have:=ih.1 h;simp[Instr.findNow,Instr.sameNow,c,b,this]
   ·simp only[asc,hx,if_false] at a;obtain⟨j,g⟩:=ih.2 v a;exact⟨j,by simp[Instr.findNow,Instr.sameNow,c,b,g]⟩
theorem hEq {P:Program} {w:World} {t k e:TypeId} {b:Nat} {l:List (Int×Value)} (c:Bool) (i:P.underlying t=some (.map k e)) (a:P.underlying k=some (.int .i64)) {z:Value} (m:(zeroValue e).run P w=.ok z w) (h:MpI w b l) (x:Int) (j:asc l x=none) :
  (Instr.lookup t (.map (some b)) (.int .i64 x) c).run P w=.ok (if c then .tuple #[z,.bool false] else z) w:=by
 obtain⟨es,cl,d,f⟩:=h;have g:=MapKept.run_findKey (P:=P) (w:=w) a ((hDn x es.toList l 0 f).1 j);have hc:∀ em,(Instr.checkKey em 10000 k (.int .i64 x)).run P w=.ok () w:=fun em=>by
  exact MapKept.run_checkKey (P:=P) (w:=w) a (k:=.int .i64 x) rfl em 9999
 simp[Instr.lookup,run_underlying i,MapKept.run_getObj_map d,hc,g,m,Result.andThen]
theorem hEh {P:Program} {w:World} {t k e:TypeId} {b:Nat} {l:List (Int×Value)} (c:Bool) (m:P.underlying t=some (.map k e)) (a:P.underlying k=some (.int .i64)) (h:MpI w b l) (x:Int) {v:Value} (n:asc l x=some v) :
  (Instr.lookup t (.map (some b)) (.int .i64 x) c).run P w=.ok (if c then .tuple #[v,.bool true] else v) w:=by
 obtain⟨es,cl,d,f⟩:=h;obtain⟨j,i⟩:=(hDn x es.toList l 0 f).2 v n;have g:=MapKept.run_findKey (P:=P) (w:=w) a i;have hc:∀ em,(Instr.checkKey em 10000 k (.int .i64 x)).run P w=.ok () w:=fun em=>by
  exact MapKept.run_checkKey (P:=P) (w:=w) a (k:=.int .i64 x) rfl em 9999
 simp[Instr.lookup,run_underlying m,MapKept.run_getObj_map d,hc,g,Result.andThen]
theorem hHh {P:Program} {w:World} {t k e:TypeId} {b:Nat} {l:List (Int×Value)} (m:P.underlying t=some (.map k e)) (d:P.underlying k=some (.int .i64)) (h:MpI w b l) (x:Int) (v:Value) (n:asc l x=none) :
  ∃ w',(Instr.mapUpdate t (.map (some b)) (.int .i64 x) v).run P w=.ok () w'∧MpI w' b (l++[(x,v)])∧w.grownBy w' (some b):=by
 obtain⟨es,cl,a,c⟩:=h;have j:=MapKept.run_findKey (P:=P) (w:=w) d ((hDn x es.toList l 0 c).1 n);have hc:∀ em,(Instr.checkKey em 10000 k (.int .i64 x)).run P w=.ok () w:=fun em=>by
  exact MapKept.run_checkKey (P:=P) (w:=w) d (k:=.int .i64 x) rfl em 9999
 have f:=(zL a);refine⟨{ w with heap:=w.heap.setIfInBounds b (.map (es.push ⟨.int .i64 x,v,cl⟩) (cl+1)) },?_,⟨es.push ⟨.int .i64 x,v,cl⟩,cl+1,?_,?_⟩,?_⟩
 ·simp[Instr.mapUpdate,run_underlying m,MapKept.run_getObj_map a,hc,j,MapKept.run_setObj_map _ a,Result.andThen]
 ·simp[f]
 ·simp only[Ent,Array.toList_push,List.map_append,List.map_cons,List.map_nil];rw[show es.toList.map (fun e=>(e.key,e.val))=_ from c]
 ·refine⟨rfl,rfl,rfl,by simp,fun g o i=>?_⟩;have:g≠b:=fun e=>i (by rw[e]);simp[Array.getElem?_setIfInBounds,Ne.symm this]
theorem MpI.len {w:World} {b:Nat} {l:List (Int×Value)} (h:MpI w b l) {P:Program} {t k e:TypeId} (f:P.underlying t=some (.map k e)) (ty:TypeId):(Builtin.len_ #[t] ty #[.map (some b)]).run P w=.ok (.int .i64 l.length) w:=by
 obtain⟨es,cl,a,c⟩:=h;have d:es.size=l.length:=by
  have:=congrArg List.length c;simpa using this
 simp[Builtin.len_,run_underlying f,MapKept.run_getObj_map a,d,goInt,Result.andThen]
structure SSl where
 prop:Bool
 pre:List Nat
 com:List Nat
 cert:Option Nat
 done:Bool
 deriving DecidableEq
def SSl.new:SSl:=⟨false,[],[],none,false⟩
structure SLog where
 e:Nat
 v:Nat
 sl:List SSl
 deriving DecidableEq
def voteV (q:Rq) (by_:Int) (t:ByteArray):Value:=.agg #[.int .i64 1,.int .i64 q.st,.int .i64 q.kind,.string q.key,.float .f64 q.real,.int .i64 0,.int .i64 by_,.string t]
def preL (q:Rq) (e v n:Nat) (l:List Nat):List (Int×Value):=l.map fun(f:Nat)=>((f:Int),voteV q f (prepT e v n q))
def comL (q:Rq) (l:List Nat):List (Int×Value):=l.map fun(f:Nat)=>((f:Int),voteV q 0 ⟨#[]⟩)
def PtR (w:World) (o:Tags) (q:Rq) (there:Bool) (p:Value):Prop:=
 if there then ∃ b,p=.pointer (some ⟨b,0,none⟩)∧Blk w o 0 b 36 q.v else p=.pointer none
def PtC (w:World) (o:Tags) (i:Nat) (cv:Option Nat) (p:Value):Prop:=
 match cv with
 |none=>p=.pointer none
 |some v=>∃ b r,p=.pointer (some ⟨b,0,none⟩)∧Blk w o i b 214 (#[.int .i64 v]++r)
def MpT (w:World) (o:Tags) (i b:Nat) (l:List (Int×Value)):Prop:=MpI w b l∧o b=i
structure SlAt (w:World) (o:Tags) (i b off mp mc:Nat) (q:Rq) (e v n:Nat) (s:SSl):Prop where
 c0:∃ p,w.cell? ⟨b,off,none⟩=some p∧PtR w o q s.prop p
 c1:w.cell? ⟨b,off+1,none⟩=some (.map (some mp))
 m1:MpT w o i mp (preL q e v n s.pre)
 c2:w.cell? ⟨b,off+2,none⟩=some (.map (some mc))
 m2:MpT w o i mc (comL q s.com)
 c3:∃ p,w.cell? ⟨b,off+3,none⟩=some p∧PtC w o i s.cert p
 c4:∃ p,w.cell? ⟨b,off+4,none⟩=some p∧PtR w o q s.done p
structure LogAt (w:World) (o:Tags) (i b:Nat) (ms:Nat→Nat) (rho:Nat→Rq) (L:SLog):Prop where
 len:L.sl.length=4
 tag:o b=i
 blk:∃ cs,w.heap[b]?=some (.cells cs 230 (0,0))∧cs.size=23
 conf:w.cell? ⟨b,0,none⟩=some (.int .i64 L.e)∧∃ A c,w.cell? ⟨b,1,none⟩=some (.slice A 4 c)∧MemD w o A c
 view:w.cell? ⟨b,2,none⟩=some (.int .i64 L.v)
 slots:∀ j,j<4→SlAt w o i b (3+5*j) (ms (2*j)) (ms (2*j+1)) (rho (4*L.e+1+j)) L.e L.v (4*L.e+1+j) (L.sl.getD j SSl.new)
 apart:∀ j k,j<8→k<8→ms j=ms k→j=k
theorem LogAt.lt {w:World} {o:Tags} {i b:Nat} {ms:Nat→Nat} {rho:Nat→Rq} {L:SLog} (h:LogAt w o i b ms rho L):b<w.heap.size:=by
 obtain⟨cs,a,_⟩:=h.blk;exact(zL a)
theorem MpT.fix {P:Nat→Prop} {o o':Tags} {w w':World} {i b:Nat} {l:List (Int×Value)} (h:MpT w o i b l) (f:Fix P o o' w w') (hi:P i):MpT w' o' i b l:=by
 obtain⟨t1,t2⟩:=f.block b h.1.lt (by rw[h.2];exact hi);obtain⟨es,cl,a,c⟩:=h.1;exact⟨⟨es,cl,t2.trans a,c⟩,by rw[t1];exact h.2⟩
theorem PtR.fix {P:Nat→Prop} {o o':Tags} {w w':World} {q:Rq} {t:Bool} {p:Value} (h:PtR w o q t p) (f:Fix P o o' w w') (a:P 0):PtR w' o' q t p:=by
 cases t with
 |false=>exact h
 |true=>obtain⟨b,e,c⟩:=h;exact⟨b,e,c.fix f a⟩
theorem PtC.fix {P:Nat→Prop} {o o':Tags} {w w':World} {i:Nat} {t:Option Nat} {p:Value} (h:PtC w o i t p) (f:Fix P o o' w w') (hi:P i):PtC w' o' i t p:=by
 cases t with
 |none=>exact h
 |some v=>obtain⟨b,r,e,a⟩:=h;exact⟨b,r,e,a.fix f hi⟩
theorem hCf {P:Nat→Prop} {o o':Tags} {w w':World} {b k:Nat} {v:Value} (h:w.cell? ⟨b,k,none⟩=some v) (a:b<w.heap.size) (c:P (o b)) (f:Fix P o o' w w'):w'.cell? ⟨b,k,none⟩=some v:=by
 obtain⟨_,t2⟩:=f.block b a c;unfold World.cell? at h ⊢;rw[t2];exact h
theorem SlAt.fix {P:Nat→Prop} {o o':Tags} {w w':World} {i b off mp mc:Nat} {q:Rq} {e v n:Nat} {s:SSl} (h:SlAt w o i b off mp mc q e v n s) (a:b<w.heap.size) (g:o b=i) (f:Fix P o o' w w') (hi:P i) (d:P 0):SlAt w' o' i b off mp mc q e v n s:=by
 have c:P (o b):=by rw[g];exact hi
 obtain⟨p0,a0,b0⟩:=h.c0;obtain⟨p3,a3,b3⟩:=h.c3;obtain⟨p4,a4,b4⟩:=h.c4;exact⟨⟨p0,hCf a0 a c f,b0.fix f d⟩,hCf h.c1 a c f,h.m1.fix f hi,hCf h.c2 a c f,h.m2.fix f hi,⟨p3,hCf a3 a c f,b3.fix f hi⟩,⟨p4,hCf a4 a c f,b4.fix f d⟩⟩
theorem LogAt.fix {P:Nat→Prop} {o o':Tags} {w w':World} {i b:Nat} {ms:Nat→Nat} {rho:Nat→Rq} {L:SLog} (h:LogAt w o i b ms rho L) (f:Fix P o o' w w') (hi:P i) (d:P 0):LogAt w' o' i b ms rho L:=by
 have a:P (o b):=by rw[h.tag];exact hi
 obtain⟨t1,t2⟩:=f.block b h.lt a;obtain⟨cs,k1,k2⟩:=h.blk;obtain⟨q1,A,c,q2,q3⟩:=h.conf;exact⟨h.len,by rw[t1];exact h.tag,⟨cs,t2.trans k1,k2⟩,⟨hCf q1 h.lt a f,A,c,hCf q2 h.lt a f,q3.fix f d⟩,hCf h.view h.lt a f,fun j e=>(h.slots j e).fix h.lt h.tag f hi d,h.apart⟩
theorem hBc (b:Nat) (i:Nat) (o:Tags) (ms:Nat→Nat) (rho:Nat→Rq) (L:SLog) (w:World) (h:LogAt w o i b ms rho L):Calls Tryz.prog 217 #[.pointer (some ⟨b,0,none⟩)] w fun e w'=>e=.returned (.int .i64 L.v)∧w=w':=by
 have c:=h.view;clear h;go_enter Tryz.func217,Tryz.ntmps217;go_wp2_with fail;go_ret;exact⟨rfl,rfl⟩
theorem hIv (b:Nat) (i:Nat) (o:Tags) (ms:Nat→Nat) (rho:Nat→Rq) (L:SLog) (g:L.e≤60) (j:Nat) (k:j<4) (w:World) (h:LogAt w o i b ms rho L):Calls Tryz.prog 290 #[.pointer (some ⟨b,0,none⟩),.int .i64 ((4*L.e+1+j:Nat):Int)] w fun e w'=>e=.returned (.pointer (some ⟨b,3+5*j,none⟩))∧w=w':=by
 have c:=h.conf.1;obtain⟨n,f⟩:=zN (4*L.e+1+j);rw[←f];have n0:¬ (n:Int)<(L.e:Int)*4+1:=by omega
 have n1:(n:Int)<(L.e:Int)*4+1+4:=by omega
 have n2:(L.e:Int)≤60:=by omega
 have n3:(0:Int)≤(L.e:Int):=by omega
 have n4:(n:Int)≤300:=by omega
 have a:zI ((n:Int) - ((L.e:Int)*4+1)=(j:Int)):=zH (by omega);generalize L.e=e at c n0 n1 n2 n3 a;clear h f g;go_enter Tryz.func290,Tryz.ntmps290;go_wp2_with fail;go_ret;refine⟨?_,rfl⟩;have d:n - (e*4+1)=j:=by have:=a.o;omega
 show Ending.returned (.pointer (some ⟨b,3+(n - (e*4+1))*5,none⟩))=_;rw[d,Nat.mul_comm]
theorem hDz (V:Nat→Value):∀ (l:List Nat) (x:Nat),asc (l.map fun(f:Nat)=>((f:Int),V f)) (x:Int)=if x∈l then some (V x) else none
 |[],x=>by simp[asc]
 |f::r,x=>by
  rw[List.map_cons];unfold asc;by_cases h:f=x
  ·subst h;simp
  ·have a:¬ ((f:Int)=(x:Int)):=by omega
   have b:¬ x=f:=fun e=>h e.symm;simp only[a,if_false,hDz V r x,List.mem_cons,b,false_or]
theorem hBg (b:Nat) (i:Nat) (o:Tags) (ms:Nat→Nat) (rho:Nat→Rq) (L:SLog) (A:Option Addr) (n c:Nat) (f:n≤100) (w:World) (h:LogAt w o i b ms rho L):Calls Tryz.prog 292 #[.pointer (some ⟨b,0,none⟩),.slice A n c] w fun e w'=>e=.returned (.bool (decide (3≤n)))∧w=w':=by
 obtain⟨_,A',c',k1,_⟩:=h.conf;have a:=zH (quorum4 w);clear h;by_cases h3:3≤n
 ·rw[decide_eq_true h3];have d:(3:Int)≤(n:Int):=by omega
  clear h3;go_enter Tryz.func292,Tryz.ntmps292;go_wp2_with fail;refine a.o.mono ?_;rintro e w1 ⟨rfl,rfl⟩;go_wp2_with fail;go_ret;exact⟨rfl,rfl⟩
 ·rw[decide_eq_false h3];have d:¬ (3:Int)≤(n:Int):=by omega
  clear h3;go_enter Tryz.func292,Tryz.ntmps292;go_wp2_with fail;refine a.o.mono ?_;rintro e w1 ⟨rfl,rfl⟩;go_wp2_with fail;go_ret;refine⟨?_,rfl⟩;show Ending.returned (.bool (decide ((3:Int)≤(n:Int))))=_;rw[decide_eq_false (by omega)]
def among (l:List Nat):Nat→List Nat
 |0=>[]
 |k+1=>if k∈l then among l k++[k] else among l k
theorem hAy (l:List Nat):∀ k,(among l k).length≤k
 |0=>Nat.le_refl _
 |k+1=>by
  have:=hAy l k;unfold among;split
  ·rw[List.length_append];simp;omega
  ·omega
def voteS (B:Nat→Int) (t:ByteArray) (l:List Nat):List St:=l.map fun(f:Nat)=>(B f,t)
theorem hGg {w w':World} {b s n:Nat} {e:TypeId} {v:Value} {xs:List Value} (h:w.ownsRow b e s v n xs) (a:Below w.heap.size w w'):w'.ownsRow b e s v n xs:=
 World.ownsRow.kept h (row:=none) (hAa a none) (by cases c:Value.ownBlock _<;>simp)
theorem MpI.keep {w w':World} {b:Nat} {l:List (Int×Value)} (h:MpI w b l) (d:Below w.heap.size w w'):MpI w' b l:=by
 obtain⟨es,cl,a,c⟩:=h;exact⟨es,cl,(d.block b (zL a)).trans a,c⟩
theorem hGr (w:World):(zeroValue 361).run Tryz.prog w=.ok (.agg #[.int .i64 0,.int .i64 0,.int .i64 0,.string ⟨#[]⟩,.float .f64 0,.int .i64 0,.int .i64 0,.string ⟨#[]⟩]) w:=by kernel_rfl
theorem hBj (b:Nat) (i:Nat) (o:Tags) (ms:Nat→Nat) (rho:Nat→Rq) (L:SLog) (off:Nat) (q:Rq) (hq:q.Ok) (B:Nat→Int) (t:ByteArray) (l:List Nat) (mp:Nat) (w:World) (h:LogAt w o i b ms rho L)
  (hp:∃ p,w.cell? ⟨b,off,none⟩=some p∧PtR w o q true p) (hm:MpI w mp (l.map fun(f:Nat)=>((f:Int),voteV q (B f) t))) :
  Calls Tryz.prog 291 #[.pointer (some ⟨b,0,none⟩),.pointer (some ⟨b,off,none⟩),.map (some mp)] w fun e w'=>(∃ A c,e=.returned (.slice A (among l 4).length c)∧w'.ownsRow w.heap.size 114 2 (.slice A (among l 4).length c) (among l 4).length ((voteS B t (among l 4)).flatMap encS))∧Below w.heap.size w w':=by
 obtain⟨i0,W,X,Y,Z⟩:=info_parts hMc;have Hj:=zH W;have Hk:=zH X;have Hl:=zH Y;have Hm:=zH Z;clear W X Y Z;obtain⟨p,Hq,pb,rfl,O⟩:=hp;obtain⟨_,A',c',k1,⟨m4,m63,g,go,rfl,hg,H⟩,_⟩:=h.conf;have HC:=zH H;have Hp:=h.lt;have Ht:=O.lt;have hI:=hm.lt;have HM:=zH hm;have Hh:=zH O.1;have Hi:=fun w=>zH (hG0 q q hq hq true (decide_eq_true rfl) w);have HA:=zH (hDz (fun f=>voteV q (B f) t) l);unfold maxLen at m63;have hJ:=fun(w:World) (a:Addr) (k:FloatKind) (n:Nat)=>run_store Tryz.prog w a (.float k n) .plain rfl;clear h H hm O hq;go_enter Tryz.func291,Tryz.ntmps291;go_wp2_with fail;go_loopw [7,9,10,11,24] (fun v _ _ _ j wr=>∃ k:Nat,k≤4∧j=.int .i64 k∧zI (wr.ownsRow w.heap.size 114 2 v (among l k).length ((voteS B t (among l k)).flatMap encS))∧zI (Below w.heap.size w wr)) (fun _ _ _ _ j _=>4 - (intOf j).toNat)
 case atStart=>exact⟨0,by omega,rfl,zH (World.ownsRow_nil _ _ _ _),zH (Below.refl _ _)⟩
 case round=>
  obtain⟨k,hk,rfl,r,d⟩:=hrel;obtain⟨VA,VC,rfl⟩:=hAk r.o;by_cases hk4:k<4
  ·have n0:(0:Int)≤(k:Int):=by omega
   have n1:(k:Int)<4:=by omega
   have U:=(d.o.cell (p:=⟨g,go+k,none⟩) hg).trans (HC.o k hk4);have hz:=d.o.size;have J:=HA.o k;by_cases hmem:k∈l
   ·rw[if_pos hmem] at J;have D:=hEh (P:=Tryz.prog) true Tryz.underlying224 Tryz.underlying3 (HM.o.keep d.o) (k:Int) J;simp only[if_true] at D;unfold voteV at D;have K:zI (among l (k+1)=among l k++[k]):=zH (by show(if k∈l then _ else _)=_;rw[if_pos hmem]);have s:Below wr.heap.size wr (wr.alloc (.cells #[.int .i64 1,.int .i64 q.st,.int .i64 q.kind,.string q.key,.float .f64 q.real,.int .i64 0,.int .i64 (B k),.string t] 361)):=(Below.refl _ _).alloc (Nat.le_refl _) _;have z:=zH (heap_alloc_new wr (.cells #[.int .i64 1,.int .i64 q.st,.int .i64 q.kind,.string q.key,.float .f64 q.real,.int .i64 0,.int .i64 (B k),.string t] 361));have m:=zH (d.o.trans (s.mono hz));have C:=zH (hGg r.o s);clear J s hmem r d;go_wp2_with fail;generalize wr.alloc (.cells #[.int .i64 1,.int .i64 q.st,.int .i64 q.kind,.string q.key,.float .f64 q.real,.int .i64 0,.int .i64 (B k),.string t] 361)=w2 at z m C ⊢;clear D U;have u:wr.heap.size<w2.heap.size:=(zL z.o);have e0:=(m.o.cell (p:=⟨b,off,none⟩) Hp).trans Hq;have Q:=(m.o.block pb Ht).trans Hh.o;obtain⟨r0,r1,r2,r3,r4,r5⟩:=hAf Q;have s0:=zR w2 wr.heap.size 0 _ _ _ z.o;have s1:=zR w2 wr.heap.size 1 _ _ _ z.o;have s2:=zR w2 wr.heap.size 2 _ _ _ z.o;have s3:=zR w2 wr.heap.size 3 _ _ _ z.o;have s4:=zR w2 wr.heap.size 4 _ _ _ z.o;have s5:=zR w2 wr.heap.size 5 _ _ _ z.o;simp at s0 s1 s2 s3 s4 s5;have T:b<w2.heap.size:=by omega
    have x:pb<w2.heap.size:=by omega
    have x0:=fun y:Bel w2.heap.size w2=>y.cell T e0;have y0:=fun y:Bel w2.heap.size w2=>y.cell x r0;have y1:=fun y:Bel w2.heap.size w2=>y.cell x r1;have y2:=fun y:Bel w2.heap.size w2=>y.cell x r2;have y3:=fun y:Bel w2.heap.size w2=>y.cell x r3;have y4:=fun y:Bel w2.heap.size w2=>y.cell x r4;have y5:=fun y:Bel w2.heap.size w2=>y.cell x r5;have z0:=fun y:Bel w2.heap.size w2=>y.cell u s0;have z1:=fun y:Bel w2.heap.size w2=>y.cell u s1;have z2:=fun y:Bel w2.heap.size w2=>y.cell u s2;have z3:=fun y:Bel w2.heap.size w2=>y.cell u s3;have z4:=fun y:Bel w2.heap.size w2=>y.cell u s4;have z5:=fun y:Bel w2.heap.size w2=>y.cell u s5;have M:=fun y:Bel w2.heap.size w2=>zH (Hi y.w).o;unfold Rq.v at M;refine hAg w2.heap.size w2 (by kernel_rfl) (by kernel_rfl) (Below.refl _ _) ?_;repeat (go_big_quiet_step ((go_at_call 199;exact hAq (Nat.le_refl _) (M _).o)))
    refine wpQuiet_nil ?_;rintro _ ⟨y,rfl⟩;have N:=(y.h.block _ u).trans z.o;have t6:=zR y.w wr.heap.size 6 _ _ _ N;have t7:=zR y.w wr.heap.size 7 _ _ _ N;simp at t6 t7;have G:=zH (m.o.trans (y.h.mono m.o.size));have R:=zH (hGg C.o y.h);clear x0 y0 y1 y2 y3 y4 y5 z0 z1 z2 z3 z4 z5 M e0 r0 r1 r2 r3 r4 r5 s0 s1 s2 s3 s4 s5 Q N z m C T x;generalize y.w=w3 at t6 t7 G R ⊢;have F:(w3.alloc (.cells #[.int .i64 (B k),.string t] 114)).ownsRow w.heap.size 114 2 (.slice VA (among l k).length VC) (among l k).length ((voteS B t (among l k)).flatMap encS):=R.o.alloc _;have E:w.heap.size≤(w3.alloc (.cells #[.int .i64 (B k),.string t] 114)).heap.size:=by have:=G.o.size;simp;omega
    have S:Below w.heap.size w (w3.alloc (.cells #[.int .i64 (B k),.string t] 114)):=G.o.alloc G.o.size _;have HJ:=hAy l k;go_wp2_with (at_builtin;go_must (refine wpList_append_own _ rfl (.tmp 46) (.tmp 49) 44 rfl w.heap.size 114 i0 _ 2 24 Tryz.underlying44 Hj.o Hk.o Hl.o Hm.o rfl (by decide) _ _ _ (by rfl) F ⟨w3.heap.size,0,none⟩ 1 1 [_,_] (by rfl) (by rfl) (World.news_of_block (cs:=#[_,_]) (t:=114) (fr:=(0,0)) (heap_alloc_new w3 _)) (by simp[Value.oneCell']) (by unfold maxLen;omega) (by omega) E ?_);go_must (intro v1 wA I V _;have Hg:=zH I;have Hc:=zH (S.grown V E (fun kk hk=>(World.ownsRow.lt F kk hk).1));clear I V F S E));exact⟨⟨k+1,by omega,by go_num,zH (by
     rw[K.o,List.length_append];have:=Hg.o;unfold voteS at this ⊢;rw[List.map_append,List.flatMap_append];exact this),Hc⟩,by simp[intOf];omega⟩
   ·rw[if_neg hmem] at J;have D:=hEq (P:=Tryz.prog) true Tryz.underlying224 Tryz.underlying3 (hGr wr) (HM.o.keep d.o) (k:Int) J;simp only[if_true] at D;have K:zI (among l (k+1)=among l k):=zH (by show(if k∈l then _ else _)=_;rw[if_neg hmem]);have s:Below wr.heap.size wr (wr.alloc (.cells #[.int .i64 0,.int .i64 0,.int .i64 0,.string ⟨#[]⟩,.float .f64 0,.int .i64 0,.int .i64 0,.string ⟨#[]⟩] 361)):=(Below.refl _ _).alloc (Nat.le_refl _) _;have m:=zH (d.o.trans (s.mono hz));have C:=zH (hGg r.o s);clear J s hmem r d;go_wp2_with fail;generalize wr.alloc (.cells #[.int .i64 0,.int .i64 0,.int .i64 0,.string ⟨#[]⟩,.float .f64 0,.int .i64 0,.int .i64 0,.string ⟨#[]⟩] 361)=w2 at m C ⊢;clear D U;go_quiet (fail)
    go_wp2_with fail;exact⟨⟨k+1,by omega,by go_num,zH (by rw[K.o];exact C.o),zH (hAc m.o nq)⟩,by simp[intOf];omega⟩
  ·obtain rfl:k=4:=by omega
   clear hk4;go_wp2_with fail;go_ret;exact⟨⟨VA,VC,rfl,r.o⟩,d.o⟩
theorem hLp (b off:Nat) (mp:Nat) (w:World) (hc:w.cell? ⟨b,off,none⟩=some (.pointer none)) :
  Calls Tryz.prog 291 #[.pointer (some ⟨b,0,none⟩),.pointer (some ⟨b,off,none⟩),.map (some mp)] w fun e w'=>e=.returned (.slice none 0 0)∧w=w':=by
 go_enter Tryz.func291,Tryz.ntmps291;go_wp2_with fail;go_ret;exact⟨rfl,rfl⟩
def cnt (l:List Nat):Nat:=(among l 4).length
def SSl.look (v:Nat) (s:SSl):SSl:=
 if s.prop && decide (3≤cnt s.pre) then { s with cert:=(match s.cert with | none=>some v | some u=>if u<v then some v else some u),done:=s.done || decide (3≤cnt s.com) } else s
end Go.Proofs.YtlibpcllceepkaaGreat
namespace Go.Proofs.YtlibpcllceepkaaGreat
set_option linter.unusedVariables false
set_option linter.unusedSimpArgs false
set_option maxHeartbeats 16000000
structure SMsg where
 kind:Nat
 e:Nat
 v:Nat
 n:Nat
 bys:List Nat
 deriving DecidableEq
def upB:List Nat→Bool
 |[]=>true
 |[x]=>decide (x<4)
 |x::y::l=>decide (x<y) && upB (y::l)
def SMsg.ok (m:SMsg):Bool:=
 match m.kind with
 |1=>m.e == 0 && m.v == 0 && decide (1≤m.n) && decide (m.n≤8) && m.bys.isEmpty
 |2=>decide (m.e≤1) && decide (m.v≤15) && decide (4*m.e+1≤m.n) && decide (m.n<4*m.e+5) && m.bys.isEmpty
 |3=>decide (m.e≤1) && decide (m.v≤15) && decide (4*m.e+1≤m.n) && decide (m.n<4*m.e+5) && m.bys.length == 1 && upB m.bys
 |4=>decide (m.e≤1) && decide (m.v≤15) && decide (4*m.e+1≤m.n) && decide (m.n<4*m.e+5) && m.bys.isEmpty
 |5=>decide (m.e≤1) && m.v == 0 && m.n == 4*(m.e+1) && m.bys.length == 1 && upB m.bys
 |6=>decide (m.e≤1) && decide (1≤m.v) && decide (m.v≤15) && m.n == 0 && m.bys.length == 1 && upB m.bys
 |7=>decide (m.e≤1) && decide (1≤m.v) && decide (m.v≤15) && m.n == 0 && m.bys.length == 3 && upB m.bys
 |8=>decide (m.e≤1) && m.v == 0 && decide (1≤m.n) && decide (m.n≤8) && m.bys.isEmpty
 |9=>decide (m.e≤1) && m.v == 0 && m.n == 0 && m.bys.isEmpty
 |10=>m.e == 1 && m.v == 0 && m.n == 4 && decide (3≤m.bys.length) && upB m.bys
 |_=>false
structure SRep where
 id:Nat
 d:Nat
 log:SLog
 votes:List Nat
 changes:List (Nat×Nat)
 active:Bool
 voted:Bool
 next:Nat
 chain:Option (List Nat)
 fails:Nat
 running:Bool
 tend:Nat
 waiting:Nat
 says:List SMsg
 settled:Option (List Nat)
 left:Nat
 hist:Nat
 o:List (Nat×SMsg)
 now:Nat
namespace SRep
def slot (r:SRep) (n:Nat):Option Nat:=if 4*r.log.e+1≤n∧n<4*r.log.e+5 then some (n - (4*r.log.e+1)) else none
def getS (r:SRep) (j:Nat):SSl:=r.log.sl.getD j SSl.new
def setS (r:SRep) (j:Nat) (s:SSl):SRep:={ r with log:={ r.log with sl:=r.log.sl.set j s } }
def send (r:SRep) (to:Nat) (m:SMsg):SRep:={ r with o:=r.o++[(to,m)] }
def others (id:Nat):Nat→List Nat
 |0=>[]
 |k+1=>if k=id then others id k else others id k++[k]
def tell (r:SRep) (m:SMsg):SRep:={ r with o:=r.o++(others r.id 4).map fun i=>(i,m) }
def say (r:SRep) (m:SMsg):SRep:={ r.tell m with says:=r.says++[m] }
def sign (r:SRep):Option SRep:=if r.left=0 then none else some { r with left:=r.left - 1 }
def wait (f:Nat):Nat:=min (8*2 ^ f) 512
def start (r:SRep):SRep:=if r.running then r else { r with running:=true,tend:=r.now+wait r.fails }
def stop (r:SRep):SRep:={ r with running:=false }
def calm (r:SRep):SRep:={ r with fails:=0 }
def fail (r:SRep):Option SRep:=if r.fails=0 then some { r with fails:=1 } else none
def restart (r:SRep):SRep:=if r.waiting=0 then r.stop else r.stop.start
def leads (r:SRep):Bool:=r.active && r.log.v % 4 == r.id
def looks (v:Nat) (s:SSl):Bool:=s.prop && (!decide (3≤cnt s.pre) || decide (s.cert=some v) || decide (s.cert=none) && !s.done && !decide (3≤cnt s.com))
def lookS (r:SRep) (j:Nat) (s:SSl):Option SRep:=if looks r.log.v s then some (r.setS j (s.look r.log.v)) else none
def lPropose (r:SRep) (j:Nat):Option (Bool×SRep):=
 if (r.getS j).prop then some (false,r) else(r.lookS j { r.getS j with prop:=true }).map fun r=>(true,r)
def lPrepare (r:SRep) (f j:Nat):Option (Bool×SRep):=
 if f∈(r.getS j).pre then some (false,r) else(r.lookS j { r.getS j with pre:=(r.getS j).pre++[f] }).map fun r=>(true,r)
def lCommit (r:SRep) (f j:Nat):Option (Bool×SRep):=
 if f∈(r.getS j).com then some (false,r) else(r.lookS j { r.getS j with com:=(r.getS j).com++[f] }).map fun r=>(true,r)
def tAdd (r:SRep) (f:Nat):Option SRep:=if f∈r.votes then none else some { r with votes:=r.votes++[f] }
def full (r:SRep):Bool:=r.d == 4*(r.log.e+1)
def fresh:List SSl:=[SSl.new,SSl.new,SSl.new,SSl.new]
def renew (r:SRep) (e:Nat):SRep:=
 { r with log:=⟨e,0,fresh⟩,votes:=[],changes:=[],active:=true,voted:=false,next:=4*e+1,says:=[] }
def perform (r:SRep):Option SRep:=
 if r.waiting=r.d+1 then some { r.send 101 ⟨8,r.log.e,0,r.d+1,[]⟩ with d:=r.d+1,hist:=r.hist+1,waiting:=0 } else none
def performs (r:SRep):Option SRep:=
 if r.full then some r else
 match r.slot (r.d+1) with
 |none=>none
 |some j=>if (r.getS j).done then(match r.perform with
  |none=>none
  |some r1=>if r1.full then some r1.calm.restart else
   match r1.slot (r1.d+1) with
   |none=>none
   |some j1=>if (r1.getS j1).done then none else some r1.calm.restart) else some r
def vote (r:SRep):Option SRep:=
 if r.left<2 then none else
 match ({ r with left:=r.left - 2 }).tAdd r.id with
 |none=>none
 |some r=>some (({ r with voted:=true }).say ⟨5,r.log.e,0,r.d,[r.id]⟩)
def voting (r:SRep):Option SRep:=if r.full && !r.voted then r.vote else some r
def proposes (r:SRep):Bool:=r.leads && !(r.waiting == 0)
def begin_ (r:SRep):Option SRep:=
 if r.chain.isSome || !(r.waiting == 0) || !(r.log.e == 0) then none else
 some (({ r with chain:=some (among r.votes 4),settled:=some (among r.votes 4),d:=4 }).renew 1).calm.stop
def goOver (r:SRep):Option SRep:=if cnt r.votes<3 then some r else r.begin_
def do_ (r:SRep):Option SRep:=
 match r.performs with
 |none=>none
 |some r=>match r.voting with
  |none=>none
  |some r=>r.goOver
def prepared (r:SRep) (j:Nat):Bool:=(r.getS j).prop && decide (3≤cnt (r.getS j).pre)
def commits (r:SRep) (n j:Nat):Option SRep:=
 if r.prepared j then(match r.lCommit r.id j with
  |none=>none
  |some (ok,r)=>some (if ok then r.say ⟨4,r.log.e,r.log.v,n,[]⟩ else r)) else some r
def goOn (r:SRep) (n:Nat):Option SRep:=
 match r.slot n with
 |none=>none
 |some j=>match r.commits n j with
  |none=>none
  |some r=>r.do_
def takeUp (r:SRep) (n:Nat):Option SRep:=
 match r.slot n,r.sign with
 |some j,some r=>(match r.lPrepare r.id j with
  |none=>none
  |some (_,r)=>(r.say ⟨3,r.log.e,r.log.v,n,[r.id]⟩).goOn n)
 |_,_=>none
def room (r:SRep) (j:Nat):Bool:=!(r.getS j).prop && decide (r.next<4*r.log.e+5)
def propose (r:SRep):Option SRep:=
 if !r.proposes then some r else
 match r.slot r.waiting with
 |none=>none
 |some j=>
  if !r.room j || !(r.waiting == r.next) then none else
  match ({ r with next:=r.next+1 }).lPropose j with
  |some (true,s)=>((s.say ⟨2,s.log.e,s.log.v,r.next,[]⟩).takeUp r.next)
  |_=>none
def empty (r:SRep):Bool:=r.log.sl == fresh
def enterV (r:SRep) (v:Nat):Option SRep:=if r.empty && r.log.v<v && v≤15 then some { r with log:={ r.log with v:=v } } else none
def hushed:List SMsg→Option (List SMsg)
 |[m]=>if m.kind=6 then some [] else none
 |[m,k]=>if m.kind=6∧k.kind=7 then some [k] else none
 |_=>none
def enter (r:SRep):Option SRep:=
 match hushed r.says with
 |none=>none
 |some l=>(({ r with says:=l,active:=true,next:=4*r.log.e+1 }).restart).propose
def chAt:List (Nat×Nat)→Nat→Option Nat
 |[],_=>none
 |p::l,i=>if p.1=i then some p.2 else chAt l i
def changed (r:SRep) (v:Nat):Nat→List Nat
 |0=>[]
 |k+1=>if chAt r.changes k=some v then changed r v k++[k] else changed r v k
def leadIn (r:SRep):Option SRep:=
 if r.active || !(r.log.v % 4 == r.id) then some r else
 if (r.changed r.log.v 4).length<3 then some r else
 if 3<(r.changed r.log.v 4).length || r.log.v == 0 then none else
 (r.say ⟨7,r.log.e,r.log.v,0,r.changed r.log.v 4⟩).enter
def giveUp (r:SRep) (v:Nat):Option SRep:=
 if !r.says.isEmpty || !(r.log.v == 0) || !(v == 1) || !(r.left != 0) || chAt r.changes r.id≠none then none else
 match r.enterV v with
 |none=>none
 |some r=>match r.fail with
  |none=>none
  |some r=>(({ r.stop.start with active:=false,left:=r.left - 1,changes:=r.changes++[(r.id,v)] }).say ⟨6,r.log.e,v,0,[r.id]⟩).leadIn
def calmCh (r:SRep):Bool:=r.changes.all fun p=>p.2 == r.log.v
def here (r:SRep) (m:SMsg):Bool:=r.active && m.e == r.log.e && m.v == r.log.v
def onRequest (r:SRep) (n:Nat):Option SRep:=
 if n≤r.d then none else if r.waiting<n then({ r with waiting:=n }).start.propose else some r
def onPropose (r:SRep) (f:Nat) (m:SMsg):Option SRep:=
 if !r.here m || !(f == m.v % 4) then none else
 match r.slot m.n with
 |none=>none
 |some j=>match r.lPropose j with
  |none=>none
  |some (ok,r)=>if ok then r.start.takeUp m.n else some r
def onPrepare (r:SRep) (f:Nat) (m:SMsg):Option SRep:=
 if !r.here m then none else
 match r.slot m.n with
 |none=>none
 |some j=>match r.lPrepare f j with
  |none=>none
  |some (ok,r)=>if ok then r.goOn m.n else some r
def onCommit (r:SRep) (f:Nat) (m:SMsg):Option SRep:=
 if !r.here m then none else
 match r.slot m.n with
 |none=>none
 |some j=>match r.lCommit f j with
  |none=>none
  |some (ok,r)=>if ok then r.goOn m.n else some r
def onVote (r:SRep) (f:Nat) (m:SMsg):Option SRep:=
 if m.e≠r.log.e then none else match r.tAdd f with
 |none=>none
 |some r=>r.goOver
def ahead (r:SRep) (m:SMsg):Bool:=m.e == r.log.e && (decide (r.log.v<m.v) || m.v == r.log.v && !r.active)
def onChange (r:SRep) (f:Nat) (m:SMsg):Option SRep:=
 if !r.ahead m then some r else
 match chAt r.changes f with
 |some u=>if m.v≤u then some r else none
 |none=>if m.v≠r.log.v ∨ !r.calmCh then none else({ r with changes:=r.changes++[(f,m.v)] }).leadIn
def onNewView (r:SRep) (f:Nat) (m:SMsg):Option SRep:=
 if !r.ahead m then some r else if !(f == m.v % 4) || !(m.v == r.log.v) then none else r.enter
def onFetch (r:SRep) (f:Nat) (m:SMsg):SRep:=match r.settled with
 |none=>r
 |some bys=>if m.e<1 then r.send f ⟨10,1,0,4,bys⟩ else r
def hear (r:SRep) (f:Nat) (m:SMsg):Option SRep:=
 match m.kind with
 |1=>if f=101 then r.onRequest m.n else none
 |2=>r.onPropose f m
 |3=>if m.bys=[f] then r.onPrepare f m else none
 |4=>if f<4 then r.onCommit f m else none
 |5=>if m.bys=[f] then r.onVote f m else none
 |6=>if m.bys=[f] then r.onChange f m else none
 |7=>r.onNewView f m
 |9=>if f<4∨f=101 then some (r.onFetch f m) else none
 |_=>none
def ok (r:SRep):Bool:=
 decide (r.id<4) && decide (r.d≤8) && decide (r.log.e≤1) && decide (r.log.v≤15) && r.votes.all (fun x=>decide (x<4)) && decide r.votes.Nodup &&
 r.changes.all (fun p=>decide (p.1<4)) && decide (r.changes.map Prod.fst).Nodup && decide (1≤r.next) && decide (r.next≤9) && decide (r.fails≤1) && decide (r.tend≤10000) && decide (r.waiting≤8) &&
 decide (r.says.length≤40) && r.says.all SMsg.ok && decide (r.left≤64) && decide (r.chain=r.settled) && (match r.settled with | none=>true | some l=>decide (3≤l.length) && decide (l.length≤4) && upB l) && r.hist == r.d && r.o.isEmpty && decide (r.now≤5000)
def handle (r:SRep) (now f:Nat) (m:SMsg):Option SRep:=if f=r.id || !r.ok || !m.ok || !decide (now≤5000) then none else({ r with now:=now }).hear f m
def due (r:SRep):Bool:=r.running && decide (r.tend≤r.now)
def gives (r:SRep):Option SRep:=if r.due then r.giveUp (r.log.v+1) else some r
def tellAll (r:SRep):List SMsg→SRep
 |[]=>r
 |m::l=>(r.tell m).tellAll l
def again (r:SRep):SRep:=if r.now % 4=0 then(r.tellAll r.says).tell ⟨9,r.log.e,0,0,[]⟩ else r
def tick (r:SRep) (now:Nat):Option SRep:=if !r.ok || !decide (now≤5000) then none else
 match ({ r with now:=now }).gives with
 |none=>none
 |some q=>if q.id=r.id∧q.now=now then some q.again else none
def new (id:Nat):SRep:=⟨id,0,⟨0,0,fresh⟩,[],[],true,false,1,none,0,false,0,0,[],none,64,0,[],0⟩
end SRep
structure SCli where
 chain:Option (List Nat)
 stamp:Nat
 open_:Bool
 came:List (Nat×Nat)
 acc:Nat
structure SWorld where
 reps:List SRep
 cli:SCli
 lane:List (Nat×Nat×SMsg)
 now:Nat
namespace SWorld
def cTell (m:SMsg):List (Nat×SMsg):=[(0,m),(1,m),(2,m),(3,m)]
def ep (c:SCli):Nat:=if c.chain.isSome then 1 else 0
def push (w:SWorld) (f:Nat) (l:List (Nat×SMsg)):Option SWorld:=if w.lane.length+l.length≤4096 then some { w with lane:=w.lane++l.map fun p=>(f,p.1,p.2) } else none
def alike (c:List (Nat×Nat)) (e:Nat):Nat→Nat
 |0=>0
 |k+1=>if (e,k)∈c then alike c e k+1 else alike c e k
def cReply (c:SCli) (f:Nat) (m:SMsg):Option SCli:=
 if !(m.e == 0) && !(m.e == 1 && c.chain.isSome) then none else
 if !c.open_ then some c else
 if m.n≠c.stamp∨(m.e,f)∈c.came then none else
 if 2≤alike (c.came++[(m.e,f)]) m.e 4 then some { c with came:=c.came++[(m.e,f)],acc:=c.acc+1,open_:=false } else some { c with came:=c.came++[(m.e,f)] }
def cHandle (c:SCli) (f:Nat) (m:SMsg):Option SCli:=
 match m.kind with
 |8=>cReply c f m
 |10=>some { c with chain:=some (match c.chain with | none=>m.bys | some l=>l) }
 |_=>none
def setRep:List SRep→SRep→List SRep
 |[],_=>[]
 |x::l,r=>if x.id=r.id then r::l else x::setRep l r
def find:List SRep→Nat→Option SRep
 |[],_=>none
 |x::l,i=>if x.id=i then some x else find l i
def take (w:SWorld):Option SWorld:=
 match w.lane with
 |[]=>none
 |(f,to,m)::rest=>
  if to=101 then(if !m.ok || !decide (f<4) then none else match cHandle w.cli f m with
   |none=>none
   |some c=>some { w with lane:=rest,cli:=c }) else
  match find w.reps to with
  |none=>some { w with lane:=rest }
  |some r=>match r.handle w.now f m with
   |none=>none
   |some r=>({ w with lane:=rest,reps:=setRep w.reps { r with o:=[] } }).push to r.o
def times (f:SWorld→Option SWorld):Nat→SWorld→Option SWorld
 |0,w=>some w
 |n+1,w=>match f w with | none=>none | some w=>times f n w
def round (w:SWorld):Option SWorld:=times take w.lane.length w
def flush (w:SWorld):Option SWorld:=times round 8 w
def tickR:List Nat→SWorld→Option SWorld
 |[],w=>some w
 |i::l,w=>match find w.reps i with
  |none=>none
  |some r=>match r.tick w.now with
   |none=>none
   |some r=>match ({ w with reps:=setRep w.reps { r with o:=[] } }).push i r.o with
    |none=>none
    |some w=>tickR l w
def cTick (w:SWorld):Option SWorld:=
 if w.now % 4=0 then
  w.push 101 ((if w.cli.open_ then cTell ⟨1,0,0,w.cli.stamp,[]⟩ else [])++cTell ⟨9,ep w.cli,0,0,[]⟩) else some w
def tick (w:SWorld):Option SWorld:=
 match tickR (w.reps.map (·.id)) { w with now:=w.now+1 } with
 |none=>none
 |some w=>cTick w
def ask (w:SWorld):Option SWorld:=
 if w.cli.open_ then none else
 ({ w with cli:={ w.cli with stamp:=w.cli.stamp+1,open_:=true,came:=[] } }).push 101 (cTell ⟨1,0,0,w.cli.stamp+1,[]⟩)
def tickF (w:SWorld):Option SWorld:=match w.tick with | none=>none | some w=>w.flush
def settle (w:SWorld):Option SWorld:=match w.flush with | none=>none | some w=>times tickF 24 w
def one (w:SWorld):Option SWorld:=match w.ask with
 |none=>none
 |some w=>match w.settle with
  |none=>none
  |some w=>if w.cli.acc=w.cli.stamp then some w else none
def init (ids:List Nat):SWorld:=⟨ids.map SRep.new,⟨none,0,false,[],0⟩,[],0⟩
def run (ids:List Nat) (k:Nat):Option SWorld:=times one k (init ids)
end SWorld
end Go.Proofs.YtlibpcllceepkaaGreat
