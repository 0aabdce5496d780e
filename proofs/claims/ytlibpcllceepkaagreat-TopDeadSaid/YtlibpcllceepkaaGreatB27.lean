/- Joined texts of the claim. No condition. -/
import Derived.Test.YtlibpcllceepkaaGreatB20
import Derived.LaidEqlPtr
namespace Go.Proofs.YtlibpcllceepkaaGreat
open Go.RowKit
set_option maxRecDepth 100000
set_option linter.unusedVariables false
set_option linter.unusedSimpArgs false
set_option maxHeartbeats 16000000
theorem MsgV.one {w:World} {o:Tags} {p:FM} {cs:List Value} (h:MsgV w o p cs):∀ u∈cs,u.oneCell'=true:=by
 obtain⟨z,rfl,_⟩:=h;simp[FM.cells,Value.oneCell']
theorem Lst.oneM {w:World} {o:Tags}:∀ {l:List FM} {xs:List Value},Lst (MsgV w o) l xs→∀ u∈xs,u.oneCell'=true
 |[],xs,h,u,hu=>by cases h;simp at hu
 |p::l,xs,⟨h,t,e,h1,h2⟩,u,hu=>by
  rw[e] at hu;rcases List.mem_append.1 hu with hu | hu
  ·exact h1.one u hu
  ·exact Lst.oneM h2 u hu
theorem hQg (A:Option Addr) (n d:Nat) (xs:List Value) (o:Tags) (i:Nat) (w:World) (Z:n≤1000) (h:Row w o i 48 17 (.slice A n d) n xs) (I:∀ u∈xs,u.oneCell'=true):Calls Tryz.prog 263 #[.slice A n d] w fun e w'=>∃ A' c,e=.returned (.slice A' n c)∧w'.ownsRow w.heap.size 48 17 (.slice A' n c) n xs∧Below w.heap.size w w':=by
 obtain⟨i0,r,t,v,x⟩:=info_parts hMb;have E:=zH r;have F:=zH t;have G:=zH v;have H:=zH x;clear r t v x;have b:=h.1;obtain⟨⟨q,U⟩,m⟩:=h;rcases U with⟨Q,W⟩ | ⟨g,cap,cur,V,_,K,Y,X,J,M⟩
 ·cases Q;have L:xs=[]:=List.length_eq_zero_iff.1 (by omega);subst L;have qT:=fun(w:World)=>Lib.run_eql_slice_nil (P:=Tryz.prog) w 118 48 none 0 0 0 0 Tryz.underlying118;clear b m q;go_enter Tryz.func263,Tryz.ntmps263;go_wp2_with fail;go_ret;exact⟨none,0,rfl,World.ownsRow_nil _ _ _ _,Below.refl _ _⟩
 ·injection V with e1 _ e3;subst e1;subst e3;have R:g<w.heap.size:=(zL K);have B:=zH q;have N:=zH I;have f:Below w.heap.size w (w.alloc (.cells #[] 48)):=(Below.refl _ _).alloc (Nat.le_refl _) _;have O:zI (∀ j u,xs[j]?=some u→(w.alloc (.cells #[] 48)).cell? ((⟨g,0,none⟩:Addr).add j)=some u):=zH (fun j u S=>by
   have:=World.ownsRow.cells b (g:=g) rfl j u S;rw[hAl,Nat.zero_add] at this ⊢;exact(f.cell (p:=⟨g,j,none⟩) R).trans this)
  have y:(w.alloc (.cells #[] 48)).ownsRow w.heap.size 48 17 (.slice (some ⟨w.heap.size,0,none⟩) 0 0) 0 []:=⟨rfl,.inr ⟨w.heap.size,0,#[],rfl,Nat.le_refl _,heap_alloc_new w _,Nat.le_refl _,Nat.zero_le _,rfl,rfl⟩⟩;have z:=zH f;have s:=f.size;clear f M J K b m q I;have qT:=fun(w:World)=>Lib.run_eql_slice_nil (P:=Tryz.prog) w 118 48 (some ⟨g,0,none⟩) n d 0 0 Tryz.underlying118;go_enter Tryz.func263,Tryz.ntmps263;go_wp2_with (at_builtin;go_must (refine wpList_append_own _ rfl (.tmp 5) (.tmp 6) 118 rfl w.heap.size 48 i0 _ 17 216 Tryz.underlying118 E.o F.o G.o H.o (by rfl) (by decide) _ _ _ (by rfl) y ⟨g,0,none⟩ n d xs (by rfl) B.o O.o N.o (by unfold maxLen;omega) (by omega) s ?_);go_must (intro v2 w2 a l _);obtain⟨VA2,VC2,rfl⟩:=hAk a;have D:=zH a;have C:=zH l;clear a l);go_ret;refine⟨VA2,VC2,?_,?_,z.o.grown C.o s (fun k T=>by cases T;exact Nat.le_refl _)⟩
  ·simp
  ·have:=D.o;simpa using this
theorem hXh (M:Array Value) (k:Int) (h:M[0]?=some (.int .i64 k)) (kb sb n c:Nat) (zs:List Int) (f:n=zs.length) (t:n≤100) (w:World) (hc:w.cell? ⟨kb,0,none⟩=some (.slice (some ⟨sb,0,none⟩) n c)) (l:kb<w.heap.size) (q:sb<w.heap.size)
  (m:∀ j,j<zs.length→w.cell? ⟨sb,0+j,none⟩=some (.int .i64 (zs.getD j 0))) :
  Calls Tryz.prog 264 #[.agg M,.pointer (some ⟨kb,0,none⟩)] w fun e w'=>e=.returned (.bool (!(zs.contains k)))∧Below w.heap.size w w':=by
 have a:=(Below.refl w.heap.size w).alloc (Nat.le_refl _) (.cells M 48);have i:=heap_alloc_new w (.cells M 48);have b:=zH (Tryz.slices_Contains_int sb 0 n c zs k (w.alloc (.cells M 48)) (by omega) (by omega) (fun j r=>(a.cell (p:=⟨sb,0+j,none⟩) q).trans (m j r)));have x0:=(a.cell (p:=⟨kb,0,none⟩) l).trans hc;have m0:=(zR _ w.heap.size 0 _ _ _ i).trans h;have g:=zH a;have s:=zH f;rw[show zs.take n=zs by rw[f,List.take_length]] at b;obtain⟨cq,d⟩:=zN (zs.contains k);rw[←d] at b ⊢;clear a i h hc m f d;go_enter Tryz.func264,Tryz.ntmps264;go_wp2_with fail;refine b.o.mono ?_;rintro e w1 ⟨rfl,rfl⟩;go_wp2_with fail;go_ret;exact⟨rfl,g.o⟩
theorem hVd (A:Option Addr) (c:Nat) (f:Value) (w:World):Calls Tryz.prog 289 #[.slice A 0 c,f] w fun e w'=>e=.returned (.int .i64 (-1))∧w=w':=by
 go_enter Tryz.func289,Tryz.ntmps289;go_wp2_with fail;go_loopw [8] (fun j wr=>j=.int .i64 0∧w=wr) (fun _ _=>0)
 case atStart=>exact⟨rfl,rfl⟩
 case round=>
  obtain⟨rfl,rfl⟩:=hrel;go_wp2_with fail;go_ret;exact⟨rfl,rfl⟩
theorem hTn (M:Array Value) (h:M.size=17):(Tryz.prog.info? 48).map (·.size)=some M.toList.length:=by
 rw[Array.length_toList,h]
 kernel_rfl
theorem hJ4 (g n c:Nat) (m:1≤n) (l:n≤1000) (M:Array Value) (k:M.size=17) (lb:Value) (w:World) (d:w.rangeAt g 0 M.toList)
  (b:Calls Tryz.prog 264 #[.agg M,lb] w fun e w'=>e=.returned (.bool true)∧Below w.heap.size w w') :
  Calls Tryz.prog 289 #[.slice (some ⟨g,0,none⟩) n c,.func (.func 264) #[] #[lb]] w fun e w'=>e=.returned (.int .i64 0)∧Below w.heap.size w w':=by
 have eg:=enters_of Tryz.func264 (by kernel_rfl) rfl;have f:=zH b;have h:=zH d;have i:=zH (hTn M k);have q1:(0:Int)<(n:Int):=by omega
 clear b d;go_enter Tryz.func289,Tryz.ntmps289;go_wp2_with fail;go_loopw [8] (fun j wr=>j=.int .i64 0∧w=wr) (fun _ _=>0)
 case atStart=>exact⟨rfl,rfl⟩
 case round=>
  obtain⟨rfl,rfl⟩:=hrel;go_wp2_with (refine wpList_load_mid (by rfl) 48 (.tmp 14) (by rfl) g 0 (by rfl) M.toList _ h.o Tryz.underlying48 rfl i.o ?_);refine f.o.mono ?_;rintro e w' ⟨rfl,a⟩;go_wp2_with fail;go_ret;exact⟨rfl,a⟩
def zeroMsg:List Value:=[.int .i64 0,.int .i64 0,.int .i64 0,.int .i64 0,.int .i64 0,.int .i64 0,.int .i64 0,.string ⟨#[]⟩,.float .f64 0,.int .i64 0,.int .i64 0,.float .f64 0,.string ⟨#[]⟩,.slice none 0 0,.slice none 0 0,.slice none 0 0,.slice none 0 0]
theorem hOe (w:World):(zeroValue 48).run Tryz.prog w=.ok (.agg zeroMsg.toArray) w:=by kernel_rfl
theorem hY0 (A:Option Addr) (c:Nat) (f:Value) (w:World):Calls Tryz.prog 262 #[.slice A 0 c,f] w fun e w'=>e=.returned (.slice A 0 c)∧w=w':=by
 have a:=zH (hVd A c f w);go_enter Tryz.func262,Tryz.ntmps262;go_wp2_with fail;refine a.o.mono ?_;rintro e w1 ⟨rfl,rfl⟩;go_wp2_with fail;go_ret;exact⟨rfl,rfl⟩
theorem hY1 (g c:Nat) (t:1≤c) (l:c≤maxLen) (M:Array Value) (s:M.size=17) (lb:Value) (cs:Array Value) (w:World) (m:w.heap[g]?=some (.cells cs 48 (0,0))) (d:cs.size=c*17) (q:w.rangeAt g 0 M.toList)
  (p:Calls Tryz.prog 264 #[.agg M,lb] w fun e w'=>e=.returned (.bool true)∧Below w.heap.size w w') :
  Calls Tryz.prog 262 #[.slice (some ⟨g,0,none⟩) 1 c,.func (.func 264) #[] #[lb]] w fun e w'=>e=.returned (.slice (some ⟨g,0,none⟩) 0 c)∧w.grownBy w' (some g)∧∃ cs':Array Value,w'.heap[g]?=some (.cells cs' 48 (0,0))∧cs'.size=cs.size:=by
 have r:=zH (hJ4 g 1 c (by omega) (by omega) M s lb w q p);have k:=zH m;have h:=zH d;have q1:(1:Int)≤(c:Int):=by omega
 have q2:(c:Int)≤9223372036854775807:=by unfold maxLen at l;omega
 clear p q m d;go_enter Tryz.func262,Tryz.ntmps262;go_wp2_with fail;refine r.o.mono ?_;rintro e w1 ⟨rfl,b⟩;have a:=(b.block g (zL k.o)).trans k.o;have u:=hDv w1 118 48 0 zeroMsg Tryz.underlying118 (hOe w1) (by decide) g 0 c (fun j n=>by
  have v:j<17:=n;rw[zR w1 g _ _ _ _ a,Array.getElem?_eq_getElem (by rw[h.o];omega)];rfl) (fun j n=>frozen_of_row w1 g _ _ _ a)
 obtain⟨cs2,t1,t2,t3⟩:=hAx zeroMsg 0 w1 g cs _ a;have f:=zH (And.intro t1 (And.intro t2 ((hAa b (some g)).trans t3)));clear t1 t2 t3 b a;go_wp2_with fail;have qc:¬ c=0:=by omega
 go_loopw [5,6] (fun i j wr=>i=.int .i64 0∧j=.int .i64 1∧w1=wr) (fun _ _ _=>0)
 case atStart=>exact⟨rfl,rfl,rfl⟩
 case round=>
  obtain⟨rfl,rfl,rfl⟩:=hrel;go_wp2_with fail;go_ret;exact⟨rfl,f.o.2.2,cs2,f.o.1,f.o.2.1⟩
theorem hY2 (g c:Nat) (Hp:2≤c) (Hg:c≤maxLen) (M N:Array Value) (hM:M.size=17) (x:N.size=17) (F:N.all (·.oneCell')=true) (lb:Value) (cs:Array Value) (w:World) (hg:w.heap[g]?=some (.cells cs 48 (0,0))) (H:cs.size=c*17) (hr:w.rangeAt g 0 M.toList) (K:w.rangeAt g 17 N.toList)
  (hp:Calls Tryz.prog 264 #[.agg M,lb] w fun e w'=>e=.returned (.bool true)∧Below w.heap.size w w')
  (J:∀ W,Below w.heap.size w W→Calls Tryz.prog 264 #[.agg N,lb] W fun e w'=>e=.returned (.bool false)∧Below W.heap.size W w') :
  Calls Tryz.prog 262 #[.slice (some ⟨g,0,none⟩) 2 c,.func (.func 264) #[] #[lb]] w fun e w'=>e=.returned (.slice (some ⟨g,0,none⟩) 1 c)∧w.grownBy w' (some g)∧∃ cs':Array Value,w'.heap[g]?=some (.cells cs' 48 (0,0))∧cs'.size=cs.size∧∀ (t:Nat) (u:Value),N.toList[t]?=some u→cs'[t]?=some u:=by
 have eg:=enters_of Tryz.func264 (by kernel_rfl) rfl;have V:=zH (hJ4 g 2 c (by omega) (by omega) M hM lb w hr hp);have U:=zH hg;have C:=zH H;have q1:(2:Int)≤(c:Int):=by omega
 have q2:(c:Int)≤9223372036854775807:=by unfold maxLen at Hg;omega
 have Z:=zH K;have Y:=zH J;have k:=zH (hTn N x);have Hb:zI ((Tryz.prog.info? 48).map (·.size)=some N.size):=zH (by rw[x];kernel_rfl);have D:=zH F;have s:=zH x;clear hp hr hg H K J F x;go_enter Tryz.func262,Tryz.ntmps262;go_wp2_with fail;refine V.o.mono ?_;rintro e w1 ⟨rfl,G⟩;have S:=zH G;clear G V;go_wp2_with fail;go_loopw [5,6] (fun i j wr=>i=.int .i64 0∧j=.int .i64 1∧zI (Below w.heap.size w wr)∨i=.int .i64 1∧j=.int .i64 2∧zI (w.grownBy wr (some g)∧∃ cs1:Array Value,wr.heap[g]?=some (.cells cs1 48 (0,0))∧cs1.size=cs.size∧∀ (t:Nat) (u:Value),N.toList[t]?=some u→cs1[t]?=some u)) (fun _ j _=>2 - (intOf j).toNat)
 case atStart=>exact .inl ⟨rfl,rfl,S⟩
 case round=>
  rcases hrel with⟨rfl,rfl,Q⟩ | ⟨rfl,rfl,L⟩
  ·have gl:=(zL U.o);have E:zI (wr.rangeAt g 17 N.toList):=zH (fun j u d=>(Q.o.cell (p:=⟨g,17+j,none⟩) gl).trans (Z.o j u d));have h:zI ((wr.alloc (.cells N 48)).rangeAt wr.heap.size 0 N.toList):=zH (fun j v R=>by
    rw[zR _ _ (0+j) _ _ _ (heap_alloc_new wr (.cells N 48)),Nat.zero_add];simpa using R)
   have O:=zH (Q.o.alloc Q.o.size (.cells N 48));have B:=zH (Y.o _ O.o);go_wp2_with (first
    |refine wpList_load_mid (by rfl) 48 (.tmp 24) (by rfl) g 17 (by rfl) N.toList _ E.o Tryz.underlying48 rfl k.o ?_
    |(refine wpList_store_row (by rfl) 48 (.tmp 7) (.tmp 25) (by rfl) wr.heap.size N (by rfl) (by rfl) 48 _ (heap_alloc_new wr _) (by rw[s.o];kernel_rfl) (by rw[s.o];rfl) D.o ?_;rw[World.setRow_alloc_new])
    |refine wpList_load_mid (by rfl) 48 (.tmp 7) (by rfl) wr.heap.size 0 (by rfl) N.toList _ h.o Tryz.underlying48 rfl k.o ?_
    |fail)
   refine B.o.mono ?_;rintro e w3 ⟨rfl,m⟩;have z:=zH (zB O.o m);have X:zI (w3.rangeAt wr.heap.size 0 N.toList):=zH (fun j v R=>(m.cell (p:=⟨wr.heap.size,0+j,none⟩) (by simp)).trans (h.o j v R));have a:=(z.o.block g gl).trans U.o;have q:w3.there g 0 N.size:=fun j d=>⟨by rw[zR w3 g (0+j) _ _ _ a,Array.getElem?_eq_getElem (by rw[C.o];rw[s.o] at d;omega)];rfl,frozen_of_row w3 g _ _ _ a⟩;have Hc:=zH q;have f:=hBo N.toList 0 w3 g cs _ a;have Ha:=zH f;have b:∀ (t:Nat) (u:Value),N.toList[t]?=some u→(setL cs 0 N.toList)[t]?=some u:=fun t u y=>by
    obtain⟨ht,Hl⟩:=List.getElem?_eq_some_iff.1 y;have e1:=World.cell?_setCells_in g N.toList 0 w3 (fun j d=>(q j (by rw[←Array.length_toList];exact d)).1) t ht;rw[Nat.zero_add,zR _ g t _ _ _ f,Hl] at e1;exact e1
   obtain⟨cs9,k1,k2,k3⟩:=hAx N.toList 0 w3 g cs _ a;have n:=And.intro ((hAa z.o (some g)).trans k3) (show(setL cs 0 N.toList).size=cs.size by rw[f] at k1;injection k1 with k1;injection k1 with k1;rw[k1];exact k2);have T:=zH (show w.grownBy (w3.setCells g 0 N.toList) (some g)∧∃ cs1:Array Value,(w3.setCells g 0 N.toList).heap[g]?=some (.cells cs1 48 (0,0))∧cs1.size=cs.size∧∀ (t:Nat) (u:Value),N.toList[t]?=some u→cs1[t]?=some u from⟨n.1,_,f,n.2,b⟩);clear m a q f k1 k2 k3 n b Ha E h O B;go_wp2_with (first
    |refine wpList_load_mid (by rfl) 48 (.tmp 7) (by rfl) wr.heap.size 0 (by rfl) N.toList _ X.o Tryz.underlying48 rfl k.o ?_
    |refine wpList_store_mid (by rfl) 48 (.tmp 33) (.tmp 32) (by rfl) g 0 N (by rfl) (by rfl) Hc.o Hb.o D.o ?_
    |fail)
   exact⟨.inr ⟨rfl,rfl,T⟩,by decide⟩
  ·obtain⟨I,cs1,l,P,h3⟩:=L.o;have qc:¬ c=1:=by omega
   have Hq:=hDv wr 118 48 0 zeroMsg Tryz.underlying118 (hOe wr) (by decide) g 17 (c - 1) (fun j d=>by
    have Hr:j<17:=d;rw[zR wr g _ _ _ _ l,Array.getElem?_eq_getElem (by rw[P,C.o];omega)];rfl) (fun j d=>frozen_of_row wr g _ _ _ l)
   obtain⟨cs2,t1,t2,t3⟩:=hAx zeroMsg 17 wr g cs1 _ l;have b:∀ (t:Nat) (u:Value),N.toList[t]?=some u→cs2[t]?=some u:=fun t u y=>by
    have ht:t<17:=by have:=(List.getElem?_eq_some_iff.1 y).1;rw[Array.length_toList,s.o] at this;exact this
    have e1:=World.cell?_setCells_out g zeroMsg 17 wr ⟨g,t,none⟩ (fun _ _=>.inl (by simp only;omega));rw[zR _ g t _ _ _ t1,zR _ g t _ _ _ l] at e1;rw[e1];exact h3 t u y
   have r:=zH (And.intro (I.trans t3) (And.intro t1 (And.intro (t2.trans P) b)));clear t1 t2 t3 l P h3 I b L;go_wp2_with fail;go_ret;exact⟨rfl,r.o.1,cs2,r.o.2.1,r.o.2.2.1,r.o.2.2.2⟩
theorem hVy {w:World} {B:Nat} {e:TypeId} {k:Nat} {v:Value} {n:Nat} {xs:List Value} (h:w.ownsRow B e k v n xs):w.ownsRow 0 e k v n xs:=
 ⟨h.1,h.2.imp id (fun⟨g,cap,cur,a,_,r⟩=>⟨g,cap,cur,a,Nat.zero_le _,r⟩)⟩
theorem hZi {w:World} {B C:Nat} {e:TypeId} {k:Nat} {v:Value} {n:Nat} {xs:List Value} (h:w.ownsRow B e k v n xs) (c:C≤B):w.ownsRow C e k v n xs:=
 ⟨h.1,h.2.imp id (fun⟨g,cap,cur,a,b,r⟩=>⟨g,cap,cur,a,Nat.le_trans c b,r⟩)⟩
theorem hQ2 {o:Tags} {w w1:World} {rho:Nat→Rq} {b:Nat} {z:RB} {r:SRep} {be m:Nat} (h:RepF w o rho b z r be m) (s:Below w.heap.size w w1) {l:List SMsg} {A:Option Addr} {c:Nat} {ys:List Value}
  (e:w1.ownsRow w.heap.size 48 17 (.slice A l.length c) l.length ys) (B:Lst (MsgV w o) (l.map (SMsg.fm rho)) ys) (G:l.length≤r.says.length) (t:∀ x∈l,x.ok=true) :
  RepF (w1.setCell ⟨b,77,none⟩ (.slice A l.length c)) (o.ext w.heap.size (tg r.id 9)) rho b { z with S:=A,sc:=c } ({ r with says:=l }:SRep) be m∧ChgR (r.id+1) o (o.ext w.heap.size (tg r.id 9)) w (w1.setCell ⟨b,77,none⟩ (.slice A l.length c)):=by
 have i:=h.keepT s (Tags.ext_old o w.heap.size (tg r.id 9));have j:Fix (· = 0) o (o.ext w.heap.size (tg r.id 9)) w w1:=Fix.below s (Tags.ext_old _ _ _);have n:=ChgR.below (k:=r.id+1) s (Tags.ext_old o w.heap.size (tg r.id 9));have F:=h.lt;have d:=Tags.ext_new o w.heap.size (tg r.id 9);have f:Row w1 (o.ext w.heap.size (tg r.id 9)) (tg r.id 9) 48 17 (.slice A l.length c) l.length ys:=⟨hVy e,fun g y=>d g ((World.ownsRow.lt e g y).1)⟩;generalize o.ext w.heap.size (tg r.id 9)=o1 at i j n d f ⊢;obtain⟨s1,s2,s3⟩:=i.blk.set 77 (.slice A l.length c);have v:Fix (· = 0) o o1 w (w1.setCell ⟨b,77,none⟩ (.slice A l.length c)):=j.trans (s3.fix (P:=(· = 0)) (by unfold tg;omega));refine⟨i.upd [1,9] (hBk s3 (by decide)) { h.num with says:=by have:=h.num.says;show l.length+m≤1000;omega,sok:=t } (fun p C=>by rcases p with _|_|_|_|_|_|_|_|_|_|_|_|_|_|p<;>first | exact absurd (by decide) C | rfl) ?_,n.trans (s3.r (by decide))⟩;intro q D;rcases(by simpa using D:q=1∨q=9) with rfl | rfl
 ·exact s1
 ·exact⟨ys,f.other s2 i.blk.1 (by decide),B.imp fun a u E=>E.fix v rfl⟩
theorem hL9 {ms l:List SMsg} (h:SRep.hushed ms=some l):(∃ x,ms=[x]∧x.kind=6∧l=[])∨∃ x y,ms=[x,y]∧x.kind=6∧y.kind=7∧l=[y]:=by
 unfold SRep.hushed at h;split at h
 ·rename_i x;split at h
  ·rename_i a;injection h with h;exact .inl ⟨x,rfl,a,h.symm⟩
  ·cases h
 ·rename_i x y;split at h
  ·rename_i a;injection h with h;exact .inr ⟨x,y,rfl,a.1,a.2,h.symm⟩
  ·cases h
 ·cases h
theorem fm6 (rho:Nat→Rq) (x:SMsg) (h:x.kind=6):(x.fm rho).kind=6:=by unfold SMsg.fm;rw[h];rfl
theorem fm7 (rho:Nat→Rq) (x:SMsg) (h:x.kind=7):(x.fm rho).kind=7:=by unfold SMsg.fm;rw[h];rfl
theorem MsgV.first {w:World} {o:Tags} {m:FM} {cs:List Value} (h:MsgV w o m cs):cs.toArray[0]?=some (.int .i64 m.kind):=by
 obtain⟨z,rfl,_⟩:=h;rfl
theorem hNc {o:Tags} {rho:Nat→Rq} {b:Nat} {z:RB} {r:SRep} {be m:Nat} (ks:List Int) (l:List SMsg)
  (V:r.says=[]∧l=[]∨(∃ x,r.says=[x]∧ks.contains ((x.fm rho).kind:Int)=false∧l=[])∨∃ x y,r.says=[x,y]∧ks.contains ((x.fm rho).kind:Int)=false∧ks.contains ((y.fm rho).kind:Int)=true∧l=[y])
  (sb n c:Nat) (Ht:n=ks.length) (hn:n≤100) (w:World) (Hl:sb<w.heap.size) (hs:∀ j,j<ks.length→w.cell? ⟨sb,0+j,none⟩=some (.int .i64 (ks.getD j 0))) (h:RepF w o rho b z r be m) :
  Calls Tryz.prog 231 #[.pointer (some ⟨b,0,none⟩),.slice (some ⟨sb,0,none⟩) n c] w fun e w'=>e=.returned (.tuple #[])∧∃ o' z',RepF w' o' rho b z' { r with says:=l } be m∧ChgR (r.id+1) o o' w w':=by
 obtain⟨xs,d,D⟩:=h.says';have i:=(Below.refl w.heap.size w).alloc (Nat.le_refl _) (.cells #[.slice (some ⟨sb,0,none⟩) n c] 29);have Hq:=heap_alloc_new w (.cells #[.slice (some ⟨sb,0,none⟩) n c] 29);have U:=d.alloc (.cells #[.slice (some ⟨sb,0,none⟩) n c] 29);have Q:=Lst.oneM D;have Hj:r.says.length≤1000:=by have:=h.num.says;omega
 have Hp:=zH (hQg z.S r.says.length z.sc xs o (tg r.id 9) _ Hj U Q);have x0:=(i.cell (p:=⟨b,77,none⟩) h.lt).trans h.c77;have f0:=frozen_of_row _ b 77 _ _ ((i.block b h.lt).trans h.blk.1);have X:=zH i;have Hr:=(zR _ w.heap.size 0 _ _ _ Hq).trans (show _=some (Value.slice (some ⟨sb,0,none⟩) n c) from rfl);have Hi:=fun j C=>(i.cell (p:=⟨sb,0+j,none⟩) Hl).trans (hs j C);have HR:=zH h;have HL:=zH D;have Y:=zH (fun(W:World) (F:Below (w.alloc (.cells #[.slice (some ⟨sb,0,none⟩) n c] 29)).heap.size (w.alloc (.cells #[.slice (some ⟨sb,0,none⟩) n c] 29)) W) (M:Array Value) (k:Int) (h0:M[0]?=some (.int .i64 k))=>
  hXh M k h0 w.heap.size sb n c ks Ht hn W ((F.cell (p:=⟨w.heap.size,0,none⟩) (by simp)).trans Hr) (Nat.lt_of_lt_of_le (by simp) F.size) (Nat.lt_of_lt_of_le (Nat.lt_of_lt_of_le Hl i.size) F.size) (fun j C=>(F.cell (p:=⟨sb,0+j,none⟩) (Nat.lt_of_lt_of_le Hl i.size)).trans (Hi j C)))
 have HX:=zH V;have hJ:=zH h.lt;have ak:=zH Q;clear V h D Q d U Hq Hr Hi hs i Ht Hj;go_enter Tryz.func231,Tryz.ntmps231;go_wp2_with fail;refine Hp.o.mono ?_;rintro e w1 ⟨A,c1,rfl,a,G⟩;have Z:Calls Tryz.prog 262 #[.slice A r.says.length c1,.func (.func 264) #[] #[.pointer (some ⟨w.heap.size,0,none⟩)]] w1 fun e w2=>∃ A2 c2 ys,e=.returned (.slice A2 l.length c2)∧Below w.heap.size w w2∧w2.ownsRow w.heap.size 48 17 (.slice A2 l.length c2) l.length ys∧Lst (MsgV w o) (l.map (SMsg.fm rho)) ys:=by
  have E:Below w.heap.size w w1:=zB X.o G;have L:w.heap.size≤(w.alloc (.cells #[.slice (some ⟨sb,0,none⟩) n c] 29)).heap.size:=X.o.size;have B:=fun W (F:Below w1.heap.size w1 W) M k h0=>Y.o W (G.trans (F.mono G.size)) M k h0;rcases HX.o with⟨e0,rfl⟩ | ⟨x,e0,f,rfl⟩ | ⟨x,y,e0,f,Hh,rfl⟩
  ·have N:r.says.length=0:=by rw[e0];rfl
   rw[N] at a ⊢;refine(hY0 A c1 _ w1).mono ?_;rintro e w2 ⟨rfl,rfl⟩;exact⟨A,c1,[],rfl,E,hZi ⟨rfl,by
    obtain⟨h1,h2⟩:=a;have ag:xs=[]:=List.length_eq_zero_iff.1 (by omega);rw[ag] at h2;exact h2⟩ L,rfl⟩
  ·have N:r.says.length=1:=by rw[e0];rfl
   rw[N] at a ⊢;have D:=HL.o;rw[e0] at D;obtain⟨u,t,e1,O,ht⟩:=D;have Hm:t=[]:=ht;rw[Hm,List.append_nil] at e1;rw[←e1] at O;have d:=a;obtain⟨ah,hr⟩:=a;rcases hr with⟨_,h0⟩ | ⟨g,cap,cur,hv,K,hg,Hk,I,J,ai⟩
   ·omega
   injection hv with q1 _ q3;subst q1;subst q3;have H:=B w1 (Below.refl _ _) xs.toArray _ O.first;rw[f] at H;refine(hY1 g c1 Hk I xs.toArray (by simp[O.len]) _ cur w1 hg J (fun j v C=>by
    have:=World.ownsRow.cells d (g:=g) rfl j v (by simpa using C);rw[hAl] at this;exact this) H).mono ?_
   rintro e w2 ⟨rfl,Hg,cs2,k1,k2⟩;refine⟨_,c1,[],rfl,E.grown Hg E.size (fun k f=>by cases f;exact Nat.le_trans L K),⟨rfl,.inr ⟨g,c1,cs2,rfl,Nat.le_trans L K,k1,Nat.zero_le _,I,by rw[k2,J],by simp⟩⟩,rfl⟩
  ·have N:r.says.length=2:=by rw[e0];rfl
   rw[N] at a ⊢;have D:=HL.o;rw[e0] at D;obtain⟨u,t,e1,O,v,t2,e2,s,ht⟩:=D;have Hm:t2=[]:=ht;rw[Hm,List.append_nil] at e2;subst e2;subst e1;have d:=a;obtain⟨ah,hr⟩:=a;rcases hr with⟨_,h0⟩ | ⟨g,cap,cur,hv,K,hg,Hk,I,J,ai⟩
   ·omega
   injection hv with q1 _ q3;subst q1;subst q3;have H:=B w1 (Below.refl _ _) u.toArray _ O.first;have Hc:=fun W F=>B W F t.toArray _ s.first;rw[f] at H;rw[Hh] at Hc;refine(hY2 g c1 Hk I u.toArray t.toArray (by simp[O.len]) (by simp[s.len]) (all_oneCell_toArray s.one) _ cur w1 hg J (fun j q C=>by
    have R:u[j]?=some q:=by simpa using C
    have:=World.ownsRow.cells d (g:=g) rfl j q (by rw[List.getElem?_append_left (List.getElem?_eq_some_iff.1 R).1];exact R);rw[hAl] at this;exact this) (fun j q C=>by
    have R:t[j]?=some q:=by simpa using C
    have:=World.ownsRow.cells d (g:=g) rfl (17+j) q (by rw[List.getElem?_append_right (by rw[O.len];omega),O.len,Nat.add_sub_cancel_left];exact R);rw[hAl,Nat.zero_add] at this;exact this) H Hc).mono ?_
   rintro e w2 ⟨rfl,Hg,cs2,k1,k2,k3⟩;refine⟨_,c1,t,rfl,E.grown Hg E.size (fun k f=>by cases f;exact Nat.le_trans L K),⟨by rw[s.len];rfl,.inr ⟨g,c1,cs2,rfl,Nat.le_trans L K,k1,by show 1≤c1;omega,I,by rw[k2,J],?_⟩⟩,Lst.one s⟩;apply List.ext_getElem?;intro k;have ao:=s.len;by_cases f:k<17
   ·rw[List.getElem?_take_of_lt (by show k<1*17;omega),Array.getElem?_toList,k3 k t[k] (by simp[List.getElem?_eq_getElem (show k<t.length by omega)]),List.getElem?_eq_getElem (by omega)]
   ·rw[List.getElem?_eq_none (by rw[List.length_take];show min (1*17) _≤k;omega),List.getElem?_eq_none (by omega)]
 have HD:=zH Z;have an:=zH (zB X.o G);clear Z Hp Y a x0 f0 G;go_wp2_with fail;refine HD.o.mono ?_;rintro e w2 ⟨A2,c2,ys,rfl,Hb,T,Hu⟩;have P:=(Hb.block b hJ.o).trans HR.o.blk.1;have x77:=zQ _ b 77 (.slice z.S r.says.length z.sc) P;have f77:=frozen_of_row _ b 77 _ _ P;have Hf:=hQ2 HR.o Hb T Hu (by
  rcases HX.o with⟨e0,rfl⟩ | ⟨x,e0,f,rfl⟩ | ⟨x,y,e0,f,Hh,rfl⟩
  ·simp
  ·simp
  ·rw[e0];simp) (by
  rcases HX.o with⟨e0,rfl⟩ | ⟨x,e0,f,rfl⟩ | ⟨x,y,e0,f,Hh,rfl⟩
  ·intro x V;cases V
  ·intro x V;cases V
  ·intro q hq;rw[List.mem_singleton] at hq;subst hq;exact HR.o.num.sok q (by rw[e0];simp))
 have HF:=zH Hf;clear Hb T Hu P Hf;go_wp2_with fail;go_end0;exact⟨rfl,_,_,HF.o.1,HF.o.2⟩
theorem hEj (l:List Nat) (x:Nat):∀ k,x∈among l k↔x<k∧x∈l
 |0=>by simp[among]
 |k+1=>by
  have ih:=hEj l x k;unfold among;split
  ·rename_i h;rw[List.mem_append,List.mem_singleton,ih];constructor
   ·rintro(⟨b,a⟩ | rfl)
    ·exact⟨by omega,a⟩
    ·exact⟨by omega,h⟩
   ·rintro⟨b,a⟩;by_cases hx:x=k
    ·exact .inr hx
    ·exact .inl ⟨by omega,a⟩
  ·rename_i h;rw[ih];constructor
   ·rintro⟨b,a⟩;exact⟨by omega,a⟩
   ·rintro⟨b,a⟩;refine⟨?_,a⟩;by_cases hx:x=k
    ·exact absurd (hx ▸ a) h
    ·omega
theorem hLr (l:List Nat) (k:Nat):∀ x∈among l k,x<k:=fun x a=>((hEj l x k).1 a).1
theorem hHr (l:List Nat):∀ k,(among l k).Pairwise (· < ·)
 |0=>List.Pairwise.nil
 |k+1=>by
  have ih:=hHr l k;unfold among;split
  ·rw[List.pairwise_append];refine⟨ih,List.pairwise_singleton _ _,?_⟩;intro a b c hc;rw[List.mem_singleton.1 hc];exact hLr l k a b
  ·exact ih
theorem hOf (l:List Nat) (k:Nat):(among l k).Nodup:=(hHr l k).imp fun h=>Nat.ne_of_lt h
theorem hJh {l:List Nat} (c:l.Nodup) (b:∀ x∈l,x<4):cnt l=l.length:=by
 have d:(among l 4).Perm l:=(List.perm_ext_iff_of_nodup (hOf l 4) c).2 fun a=>by
  rw[hEj];exact⟨fun h=>h.2,fun h=>⟨b a h,h⟩⟩
 exact d.length_eq
theorem hDi {l:List Nat} (b:l.Nodup) (a:∀ x∈l,x<4):l.length≤4:=by
 rw[←hJh b a];exact hAy l 4
theorem hV2 {l:List Nat} (h:3≤(among l 4).length):Qu (among l 4):=by
 refine⟨h,hAy l 4,fun i hi=>?_,fun i hi=>?_⟩
 ·rw[List.getD_eq_getElem?_getD,List.getElem?_eq_getElem hi];exact hLr l 4 _ (List.getElem_mem _)
 ·rw[List.getD_eq_getElem?_getD,List.getD_eq_getElem?_getD,List.getElem?_eq_getElem hi,List.getElem?_eq_getElem (by omega)];exact List.pairwise_iff_getElem.1 (hHr l 4) _ _ (by omega) hi (by omega)
theorem hNn {s:ByteArray} {v:Nat} {x:ByteArray}:∀ {l:Kvs},x∈(setK l s v).map Prod.fst↔x=s∨x∈l.map Prod.fst
 |[]=>by simp[setK]
 |p::l=>by
  unfold setK;split
  ·rename_i h;simp only[List.map_cons,List.mem_cons];rw[h];exact⟨fun h=>h.elim .inl (fun h=>.inr (.inr h)),fun h=>h.elim .inl (fun h=>h.elim .inl .inr)⟩
  ·simp only[List.map_cons,List.mem_cons];rw[hNn (l:=l)];exact⟨fun h=>h.elim (fun h=>.inr (.inl h)) (fun h=>h.elim .inl (fun h=>.inr (.inr h))),fun h=>h.elim (fun h=>.inr (.inl h)) (fun h=>h.elim .inl (fun h=>.inr (.inr h)))⟩
theorem hCk {s:ByteArray} {v:Nat}:∀ {l:Kvs},(l.map Prod.fst).Nodup→((setK l s v).map Prod.fst).Nodup
 |[],_=>by simp[setK]
 |p::l,h=>by
  rw[List.map_cons,List.nodup_cons] at h;unfold setK;split
  ·rename_i e;rw[List.map_cons,List.nodup_cons];exact⟨by rw[←e];exact h.1,h.2⟩
  ·rename_i e;rw[List.map_cons,List.nodup_cons];refine⟨fun a=>?_,hCk h.2⟩;rcases hNn.1 a with h1 | h1
   ·exact e h1
   ·exact h.1 h1
theorem hL0 {s:ByteArray} {x:ByteArray}:∀ {l:Kvs},x∈(delK l s).map Prod.fst→x∈l.map Prod.fst
 |[],h=>h
 |p::l,h=>by
  unfold delK at h;split at h
  ·exact List.mem_cons_of_mem _ h
  ·rw[List.map_cons,List.mem_cons] at h ⊢;exact h.imp id hL0
theorem hIo {s:ByteArray}:∀ {l:Kvs},(l.map Prod.fst).Nodup→((delK l s).map Prod.fst).Nodup
 |[],h=>h
 |p::l,h=>by
  rw[List.map_cons,List.nodup_cons] at h;unfold delK;split
  ·exact h.2
  ·rw[List.map_cons,List.nodup_cons];exact⟨fun a=>h.1 (hL0 a),hIo h.2⟩
theorem hIs (rho:Nat→Rq):∀ n,((hist rho n).1.map Prod.fst).Nodup
 |0=>List.nodup_nil
 |n+1=>by
  have h:=hIs rho n;show((apK (hist rho n).1 (rho (n+1))).1.map Prod.fst).Nodup;unfold apK;split
  ·split
   ·exact hCk h
   ·exact h
  ·split
   ·exact hCk h
   ·split
    ·exact hCk h
    ·split
     ·exact hCk h
     ·split
      ·exact hIo h
      ·exact hCk h
theorem hCy {rho:Nat→Rq} (g:ROk rho) (e d:Nat) (b:d≤8):1≤(ledT rho e d).size∧(ledT rho e d).size≤60000:=by
 have h:(ledT rho e d).size=(ledL rho e d).length:=hA3 _;rw[h];unfold ledL;rw[List.length_append,List.length_append,hDa,hD9];have a:=hDs (hist rho d).1 (sortK (hist rho d).1) (fun k c=>by
  obtain⟨p,f,rfl⟩:=hDt c;exact((hCb g d b).1 p f).2.2)
 rw[hA4] at a;have i:=hCp rho d;omega
theorem RepF.chg14 {o o':Tags} {w w':World} {rho:Nat→Rq} {b:Nat} {z:RB} {r:SRep} {be m:Nat} (h:RepF w o rho b z r be m) (c:Chg (tg r.id 14) o o' w w'):RepF w' o' rho b z r be m∧ChgR (r.id+1) o o' w w':=
 ⟨h.upd1 14 c h.num (fun p _=>rfl) trivial,c.r (by decide)⟩
theorem hPu {o o':Tags} {w w':World} {rho:Nat→Rq} {b:Nat} {z:RB} {r:SRep} {be m:Nat} (h:RepF w o rho b z r be m) {f:Nat} (i:f<4) (j:f∉r.votes) (l:TalAt w' o' (tg r.id 4) z.tl z.vm z.cm r.log.e (ledT rho (r.log.e+1) (4*(r.log.e+1))) (r.votes++[f])) (hc:Chg (tg r.id 4) o o' w w') :
  RepF w' o' rho b z { r with votes:=r.votes++[f] } be m∧ChgR (r.id+1) o o' w w':=
 ⟨h.upd1 4 hc { h.num with votes:=fun x d=>by rcases List.mem_append.1 d with d | d;exact h.num.votes x d;rw[List.mem_singleton.1 d];exact i,nodup:=List.nodup_append.2 ⟨h.num.nodup,List.pairwise_singleton _ _,fun a g c hc e=>j (by rw[List.mem_singleton.1 hc] at e;exact e ▸ g)⟩ } (fun p k=>by rcases p with _|_|_|_|_|_|_|_|_|_|_|_|_|_|p<;>first | exact absurd (by decide) k | rfl) l,hc.r (by decide)⟩
theorem hE5 {w:World} {g:Nat} {i:Int} {t:ByteArray} {T:TypeId} (h:w.heap[g]?=some (.cells #[.int .i64 i,.string t] T (0,0))):w.cell? ⟨g,0,none⟩=some (.int .i64 i)∧w.cell? ⟨g,1,none⟩=some (.string t):=
 ⟨(zR w g 0 _ _ _ h).trans rfl,(zR w g 1 _ _ _ h).trans rfl⟩
theorem SlD.of_row {α:Type} {enc:α→List Value} {w:World} {o:Tags} {g n:Nat} {T:TypeId} {l:List α} (h:w.heap[g]?=some (.cells (l.flatMap enc).toArray T (0,0))) (d:l.length=n) (c:n≤maxLen) (a:o g=0):SlD enc w o (some ⟨g,0,none⟩) n n l:=by
 refine⟨d,Nat.le_refl _,c,(fun e=>by cases e),fun ad e=>?_⟩;cases e;refine⟨g,0,rfl,(zL h),a,fun j u b=>?_⟩;rw[Nat.zero_add,zR w g j _ _ _ h];simpa using b
theorem hK6 (x:Int) (A:Option Addr) (n c:Nat) (w:World):(Instr.field 31 (.agg #[.int .i64 x,.slice A n c]) 1).run Tryz.prog w=.ok (.slice A n c) w:=by kernel_rfl
theorem hNh {o:Tags} {rho:Nat→Rq} {b:Nat} {z:RB} {r:SRep} {m:Nat} (hr:ROk rho) (hd:r.d=4*(r.log.e+1)) (hv:r.id∉r.votes) (hl:2≤r.left) (w:World) (h:RepF w o rho b z r r.log.e (m+5)) :
  Calls Tryz.prog 281 #[.pointer (some ⟨b,0,none⟩)] w fun e w'=>e=.returned (.tuple #[])∧∃ o' z',RepF w' o' rho b z' (({ r with left:=r.left - 2,votes:=r.votes++[r.id],voted:=true }:SRep).say ⟨5,r.log.e,0,r.d,[r.id]⟩) r.log.e m∧ChgR (r.id+1) o o' w w':=by
 have Hp:=h.num.id;have b7:=h.num.e;have aH:=h.num.d;have bo:=hDi h.num.nodup h.num.votes;obtain⟨ts1,ts2⟩:=hCy hr (r.log.e+1) r.d aH;have ag:=zH (hVi z.bk z.kb (tg r.id 6) (tg r.id 14) (hCe _ _) o rho r.log.e r.d w h.book);have aw:=fun bb kk o w h=>zH (hVl bb kk (tg r.id 14) (hCe _ _) o rho r.log.e r.d (by omega) hd (by omega) w h);have Hc:=fun bb kk o w h=>zH (hMf bb kk (tg r.id 14) o rho hr (r.log.e+1) r.d (by omega) aH w h);have ae:=fun bb kk o w h=>zH (hFg bb kk (tg r.id 14) o rho (r.log.e+1) r.d w h);obtain⟨T,hT⟩:=zN (ledT rho (r.log.e+1) r.d);rw[←hT] at ts1 ts2 Hc;have HT:=zH hT;have av:=fun A2 c2 w hm bg=>zH (hP0 r.log.e (by omega) z.M z.mc T ts1 ts2 A2 c2 w hm bg);have Ha:=fun(r':SRep) t hl w o h=>zH (hH9 (o:=o) (rho:=rho) (b:=b) (z:=z) (r:=r') (be:=r.log.e) (m:=m+5) t hl w h);have x2:=h.c2;have HR:=zH h;have O:=zH hd;clear h hT hd;go_enter Tryz.func281,Tryz.ntmps281;go_wp2_with fail;refine ag.o.mono ?_;rintro e w1 ⟨bb,kk,o1,rfl,aJ,Hw,Hi⟩;have an:=zH (HR.o.keepT Hi Hw);have hJ:=zH (ChgR.below (k:=r.id+1) Hi Hw);have aQ:=aw bb kk o1 w1 aJ;clear x2 aJ Hw Hi ag HR;go_wp2_with fail;refine aQ.o.mono ?_;rintro e w2 ⟨rfl,o2,Hq,aD⟩;obtain⟨aL,Hl⟩:=an.o.chg14 aD;have ao:=zH aL;have hO:=zH (hJ.o.trans Hl);have ai:=zH Hq;have aR:=Hc bb kk o2 w2 Hq;clear Hq aD aL Hl an hJ aQ;go_wp2_with fail;refine aR.o.mono ?_;rintro e w3 ⟨rfl,E⟩;have ap:=zH (ao.o.keep E);have hU:=zH (hO.o.trans (ChgR.below (k:=r.id+1) (o':=o2) E (fun _ _=>rfl)));have aF:=ae bb kk o2 w3 (ai.o.fix (P:=fun _=>True) (Fix.same E) trivial trivial);clear E ao hO aR ai;go_wp2_with fail;refine aF.o.mono ?_;rintro e w4 ⟨A2,c2,rfl,aK,Hj⟩;have f:=zH (ap.o.keepT Hj (Tags.ext_old o2 w3.heap.size 0));have L:=zH (hU.o.trans (ChgR.below (k:=r.id+1) Hj (Tags.ext_old o2 w3.heap.size 0)));have C:=zH (aK.data' (o2.ext w3.heap.size 0) (fun x hx=>Tags.ext_new _ _ _ _ hx));generalize o2.ext w3.heap.size 0=o4 at f L C;have aP:=av A2 c2 w4 f.o.mem.1 C.o.1;have x0:=f.o.c0;have y3:=f.o.t3;have y4:=f.o.t4;have ba:=hK6 ((r.log.e:Int)+1) A2 4 c2;clear aK Hj ap hU aF aw Hc ae av;go_wp2_with fail;refine aP.o.mono ?_;rintro e w5 ⟨rfl,F⟩;have aq:=zH (f.o.keep F);have aa:=zH (L.o.trans (ChgR.below (k:=r.id+1) (o':=o4) F (fun _ _=>rfl)));have aj:=zH (C.o.fix (P:=fun _=>True) (Fix.same F) trivial);have aO:=Ha r (stateT (4*(r.log.e+1)) T) (by omega) w5 o4 aq.o;clear F f L C aP x0 y3 y4;go_wp2_with fail;refine aO.o.mono ?_;rintro e w6 ⟨rfl,o6,aM,Hm⟩;have n:=(Below.refl w6.heap.size w6).alloc (Nat.le_refl _) (.cells #[.int .i64 r.id,.string (stateT (4*(r.log.e+1)) T)] 114);have Hf:=heap_alloc_new w6 (.cells #[.int .i64 r.id,.string (stateT (4*(r.log.e+1)) T)] 114);have X:=zH (aM.keepT n (Tags.ext_old o6 w6.heap.size 7));have N:=zH ((aa.o.trans Hm).trans (ChgR.below (k:=r.id+1) n (Tags.ext_old o6 w6.heap.size 7)));have U:=zH ((aj.o.fix (hA7 Hm) rfl).fix (P:=fun _=>True) (Fix.below n (Tags.ext_old o6 w6.heap.size 7)) trivial);have I:=Tags.ext_new o6 w6.heap.size 7 w6.heap.size (Nat.le_refl _);have v:=Ha { r with left:=r.left - 1 } (confT (r.log.e+1)) (by show r.left - 1≠0;omega) _ _ X.o;generalize o6.ext w6.heap.size 7=o7 at X N U I v;obtain⟨g,hg⟩:=zN (w6.heap.size);rw[←hg] at Hf I;have am:=zH Hf;have HG:=zH hg;clear n Hf aM Hm aq aa aj aO ba hg;go_wp2_with fail;rw[←HG.o];refine v.o.mono ?_;rintro e w8 ⟨rfl,o8,aN,H⟩;have W:=zH (H.at am.o (by rw[I];simp));have ak:=zH (U.o.fix (hA7 H) rfl);have ab:=zH (N.o.trans H);have ar:=zH (show RepF w8 o8 rho b z { r with left:=r.left - 2 } r.log.e (m+5) from aN);clear aN H am U N X v Ha HG I;have Hh:=(Below.refl w8.heap.size w8).alloc (Nat.le_refl _) (.cells #[.int .i64 r.id,.string (confT (r.log.e+1))] 114);have i:=heap_alloc_new w8 (.cells #[.int .i64 r.id,.string (confT (r.log.e+1))] 114);obtain⟨s0,s1⟩:=hE5 ((Hh.block g (zL W.o)).trans W.o);obtain⟨s2,s3⟩:=hE5 i;clear Hh i;go_wp2_with fail;have ay:ledT rho (r.log.e+1) (4*(r.log.e+1))=T:=by rw[HT.o,O.o]
 have G:Below w8.heap.size w8 ((w8.alloc (.cells #[.int .i64 r.id,.string (confT (r.log.e+1))] 114)).alloc (.cells #[.int .i64 r.id,.string (stateT (4*(r.log.e+1)) T),.int .i64 r.id,.string (confT (r.log.e+1))] 114)):=((Below.refl w8.heap.size w8).alloc (Nat.le_refl _) _).alloc (by simp) _;have i:=heap_alloc_new (w8.alloc (.cells #[.int .i64 r.id,.string (confT (r.log.e+1))] 114)) (.cells #[.int .i64 r.id,.string (stateT (4*(r.log.e+1)) T),.int .i64 r.id,.string (confT (r.log.e+1))] 114);have a:=zH (ar.o.keepT G (Tags.ext_old o8 w8.heap.size 0));have B:=zH (ab.o.trans (ChgR.below (k:=r.id+1) G (Tags.ext_old o8 w8.heap.size 0)));have D:=zH (ak.o.fix (P:=fun _=>True) (Fix.below G (Tags.ext_old o8 w8.heap.size 0)) trivial);have ax:=Tags.ext_new o8 w8.heap.size 0 (w8.heap.size+1) (by omega);rw[show(w8.alloc (.cells #[.int .i64 r.id,.string (confT (r.log.e+1))] 114)).heap.size=w8.heap.size+1 by simp] at i;have u:=zH (SlD.of_row (enc:=encS) (l:=[((r.id:Int),stateT (4*(r.log.e+1)) T),((r.id:Int),confT (r.log.e+1))]) i rfl (by unfold maxLen;simp) ax);obtain⟨gs,aI⟩:=zN (w8.heap.size+1);rw[←aI] at u ⊢;clear i ax G ar ab ak W s0 s1 s2 s3 aI;generalize o8.ext w8.heap.size 0=o9 at a B D u;generalize World.alloc _ _=w9 at a B D u ⊢;have x0:=fun y:Bel w9.heap.size w9=>y.cell a.o.lt a.o.c0;have x1:=fun y:Bel w9.heap.size w9=>y.cell a.o.lt a.o.c1;have y1:=fun y:Bel w9.heap.size w9=>y.cell a.o.tlt a.o.t1;refine hAi 14 w9.heap.size w9 (by kernel_rfl) (by kernel_rfl) (Below.refl _ _) ?_;simp only[List.take_succ_cons,List.take_zero,List.drop_succ_cons,List.drop_zero];repeat (go_big_quiet_step (fail))
 refine wpQuiet_nil ?_;rintro⟨wy,hy⟩;show wpList _ _ _ _ _ wy;have Hg:=a.o.keep hy;have V:=zH (D.o.fix (P:=fun _=>True) (Fix.same hy) trivial);have Hb:=zH (u.o.fix (P:=fun _=>True) (Fix.same hy) trivial);have Hy:=Hg.tal;rw[ay] at Hy;have az:=hPz z.tl z.vm z.cm (tg r.id 4) (hCe _ _) o9 r.log.e (by omega) T ts1 ts2 r.votes (by omega) r.id Hp hv A2 c2 _ _ wy Hy V.o.1 Hb.o;have au:=zH Hg;have hI:=zH az;have ah:=zH (B.o.trans (ChgR.below (k:=r.id+1) (o':=o9) hy (fun _ _=>rfl)));clear Hg Hy az x0 x1 y1 a B D u hy;go_wp2_with fail;refine hI.o.mono ?_;rintro e w10 ⟨rfl,o10,Hx,aE⟩;rw[←ay] at Hx;obtain⟨Hr,q⟩:=hPu au.o Hp hv Hx aE;have c:=zH Hr;have J:=zH (ah.o.trans q);have R:=zH (V.o.fix (hA7 q) rfl);have Y:=zH (Hb.o.fix (hA7 q) rfl);clear Hx aE Hr q au hI ah V Hb;have x0:=c.o.c0;have y6:=c.o.t6;have f6:=c.o.tfz 6;obtain⟨Ht,s⟩:=c.o.setT 6 (.bool true) (z':=z) (r':={ r with left:=r.left - 2,votes:=r.votes++[r.id],voted:=true }) rfl rfl rfl { c.o.num with } (fun p hp=>by rcases p with _|_|_|_|_|_|_|_|_|_|_|_|_|_|p<;>first | exact absurd (by decide) hp | rfl);have j:=zH Ht;have K:=zH (J.o.trans s);have S:=zH (R.o.fix (hA7 s) rfl);have Z:=zH (Y.o.fix (hA7 s) rfl);clear Ht s J R Y;have x2:=j.o.c2;have Q:=zH (hBu z.bk z.kb (tg r.id 6) o10 rho r.log.e r.d _ j.o.book);go_wp2_with fail;clear x0 y6 f6 c;generalize w10.setCell _ _=w11 at j K S Z Q x2 ⊢;refine Q.o.mono ?_;rintro e wx ⟨rfl,rfl⟩;obtain⟨zz,HJ⟩:=zN (⟨A2,c2,some ⟨gs,0,none⟩,2,none,0,none,0⟩:Sls);have aB:((⟨5,r.log.e,0,r.d,[r.id]⟩:SMsg).fm rho).At w11 o10 zz:=by
  rw[HJ];refine⟨S.o,?_,SlD.nil _ _ _,⟨rfl,rfl⟩⟩;have h:=Z.o;rw[HT.o,←O.o] at h;exact h
 have aG:#[.int .i64 5,.int .i64 0,.int .i64 0,.int .i64 r.d,.int .i64 0,.int .i64 0,.int .i64 0,.string ⟨#[]⟩,.float .f64 0,.int .i64 0,.int .i64 0,.float .f64 0,.string T,.slice A2 4 c2,.slice (some ⟨gs,0,none⟩) 2 2,.slice none 0 0,.slice none 0 0]=(((⟨5,r.log.e,0,r.d,[r.id]⟩:SMsg).fm rho).cells zz).setIfInBounds 1 (.int .i64 0):=by
  rw[HJ,HT.o];rfl
 have b6:=zH (hE0 (r:={ r with left:=r.left - 2,votes:=r.votes++[r.id],voted:=true }) (m:=m) ⟨5,r.log.e,0,r.d,[r.id]⟩ (by simp[SMsg.ok,upB,b7,O.o,Hp]) rfl zz _ aG w11 j.o aB);clear HJ aB aG x2 Q;go_wp2_with fail;refine b6.o.mono ?_;rintro e w12 ⟨rfl,o12,z12,Hu,Hk⟩;have aT:=zH Hu;have aS:=zH (K.o.trans Hk);clear Hu Hk;go_wp2_with fail;go_end0;exact⟨rfl,o12,z12,aT.o,aS.o⟩
theorem hXe (tb e:Nat) (a:e≤60) (w:World) (hc:w.cell? ⟨tb,3,none⟩=some (.int .i64 e)) :
  Calls Tryz.prog 74 #[.pointer (some ⟨tb,0,none⟩)] w fun r w'=>r=.returned (.int .i64 ((4*e+1:Nat):Int))∧w=w':=by
 have n1:(0:Int)≤(e:Int):=by omega
 have n2:(e:Int)≤60:=by omega
 go_enter Tryz.func74,Tryz.ntmps74;go_wp2_with fail;go_ret;exact⟨hPv (by omega),rfl⟩
theorem hKh {o:Tags} {rho:Nat→Rq} {b:Nat} {z:RB} {r:SRep} {be m:Nat} (ay:be≤1) (num:Num (r.renew be) m) (X Y:Value) (w:World)
  (hb:Blk w o (tg r.id 1) b 125 (((repC rho { z with S:=none,sc:=0 } (r.renew be)).setIfInBounds 0 X).setIfInBounds 77 Y)) (F:∀ p,p∉[1,2,3,4,5,9,13]→RepP rho b z r be p w o) :
  Calls Tryz.prog 49 #[.pointer (some ⟨b,0,none⟩)] w fun e w'=>e=.returned (.tuple #[])∧∃ o' z',RepF w' o' rho b z' (r.renew be) be m∧ChgR (r.id+1) o o' w w'∧z'.bk=z.bk:=by
 have HJ:LedAt w o (tg r.id 6) z.bk z.kb rho be r.d:=F 6 (by decide);have x2:w.cell? ⟨b,2,none⟩=some (.pointer (some ⟨z.bk,0,none⟩)):=(zR w b 2 _ _ _ hb.1).trans rfl;have Hu:=zH (hFg z.bk z.kb (tg r.id 6) o rho be r.d w HJ);have s:=zH hb;have T:=zH F;have ag:=zH num;have an:=fun o A c w hm=>zH (hXq be (by omega) (tg r.id 3) o rho A c w hm);have ap:=fun o A c w hm=>zH (hYh be (by omega) (tg r.id 4) o (ledT rho (be+1) (4*(be+1))) A c w hm);have aj:=fun tb w hc=>zH (hXe tb be (by omega) w hc);clear hb F HJ num;go_enter Tryz.func49,Tryz.ntmps49;go_wp2_with fail;refine Hu.o.mono ?_;rintro e w1 ⟨A2,c2,rfl,aa,Hg⟩;have G:=(Below.refl w1.heap.size w1).alloc (Nat.le_refl _) (.cells #[.int .i64 be,.slice A2 4 c2] 31);have Hz:=Hg.trans (G.mono Hg.size);have H:=zH Hz;have u:=zH ((aa.keep G).data' (o.ext w.heap.size 0) (fun x a=>Tags.ext_new _ _ _ _ a));have i:=zH (heap_alloc_new w1 (.cells #[.int .i64 be,.slice A2 4 c2] 31));have Ha:zI (∀ x,x<w.heap.size→(o.ext w.heap.size 0) x=o x):=zH (Tags.ext_old o w.heap.size 0);generalize o.ext w.heap.size 0=o2 at u Ha;have c0:=(zR _ w1.heap.size 0 _ _ _ i.o).trans (show _=some (Value.int .i64 be) from rfl);have c1:=(zR _ w1.heap.size 1 _ _ _ i.o).trans (show _=some (Value.slice A2 4 c2) from rfl);have Hk:=an o2 A2 c2 _ u.o.1;clear G Hz aa Hg x2 Hu;go_wp2_with fail;obtain⟨g,hg⟩:=zN (w1.heap.size);rw[←hg] at i c0 c1 ⊢;clear hg;generalize w1.alloc _=w2 at H u i c0 c1 Hk ⊢;refine Hk.o.mono ?_;rintro e w3 ⟨lb,o3,ms,rfl,hO,Hq,N⟩;have U:=zH (zB H.o N);have Hx:zI (∀ x,x<w.heap.size→o3 x=o x):=zH (fun x a=>(Hq x (Nat.lt_of_lt_of_le a H.o.size)).trans (Ha.o x a));have W:=zH (u.o.fix (P:=fun _=>True) (Fix.below N Hq) trivial);have v:=zH ((N.block g (zL i.o)).trans i.o);have Hw:=zH hO;have ab:=ap o3 A2 c2 w3 W.o.1;clear c0 c1 hO Hq N H u i Ha Hk;have c0:=zQ _ g 0 (.int .i64 be) v.o;have c1:=zQ _ g 1 (.slice A2 4 c2) v.o;go_wp2_with fail;refine ab.o.mono ?_;rintro e w4 ⟨tl,vm,cm,o4,rfl,hU,Q,D⟩;have I:=zH (zB U.o D);have Hb:zI (∀ x,x<w.heap.size→o4 x=o x):=zH (fun x a=>(Q x (Nat.lt_of_lt_of_le a U.o.size)).trans (Hx.o x a));have ao:=zH (W.o.fix (P:=fun _=>True) (Fix.below D Q) trivial);have J:=zH ((D.block g (zL v.o)).trans v.o);have am:=zH (Hw.o.fix (P:=fun _=>True) (Fix.below D Q) trivial trivial);have ah:=zH hU;clear c0 c1 hU Q D U W v Hx Hw ab;have c0:=zQ _ g 0 (.int .i64 be) J.o;have c1:=zQ _ g 1 (.slice A2 4 c2) J.o;have E:=(I.o.block b s.o.lt).trans s.o.1;have Hh:b<w4.heap.size:=(zL E);have f0:=frozen_of_row w4 b 0 _ _ E;have t0:w4.cell? ⟨b,0,none⟩=some X:=(zR w4 b 0 _ _ _ E).trans rfl;have Hj:=(zL J.o);have au:=@run_makeMap Tryz.prog;go_wp2_with fail;obtain⟨n,hn⟩:=zN (w4.heap.size);rw[←hn] at Hh Hj;rw[←hn];have Hp:=heap_setCell_same w4 b 0 _ _ (.pointer (some ⟨n+1,0,none⟩)) E;have R:(w4.setCell ⟨b,0,none⟩ (.pointer (some ⟨n+1,0,none⟩))).heap.size=n:=by rw[hn];simp[World.setCell]
 have Hi:w4.grownBy (w4.setCell ⟨b,0,none⟩ (.pointer (some ⟨n+1,0,none⟩))) (some b):=hAb (hAa (Below.refl _ _) _) (p:=⟨b,0,none⟩) (.inl rfl) _;generalize w4.setCell ⟨b,0,none⟩ _=ws at Hp R Hi ⊢;obtain⟨v1,v2,v3,v4⟩:=hAp ws (.map #[] 0) (.cells #[.pointer (some ⟨lb,0,none⟩),.pointer (some ⟨tl,0,none⟩),.map (some n),.int .i64 be,.slice A2 4 c2,.bool true,.bool false,.int .i64 0] 188);rw[R] at v1 v2 v3 v4;have Hc:=zH v1;have B:=zH v2;have C:=zH ((v4.block b Hh).trans Hp);have V:=zH (Hi.trans (hAa (by rw[R];exact v4) _));have Z:=zH (And.intro hn v3);clear Hp R Hi v1 v2 v3 v4 f0 t0 c0 c1 E au Hj J hn Hh;generalize World.alloc _ _=w5 at Hc B C V Z ⊢;have lb5:=(zL C.o);have lt5:=(zL B.o);have e0:w5.cell? ⟨b,0,none⟩=some (.pointer (some ⟨n+1,0,none⟩)):=(zR w5 b 0 _ _ _ C.o).trans rfl;have e3:w5.cell? ⟨n+1,3,none⟩=some (.int .i64 be):=(zR w5 (n+1) 3 _ _ _ B.o).trans rfl;have x0:=fun y:Bel w5.heap.size w5=>y.cell lb5 e0;have hJ:=fun y:Bel w5.heap.size w5=>aj (n+1) y.w (y.cell lt5 e3);refine hAi 11 w5.heap.size w5 (by kernel_rfl) (by kernel_rfl) (Below.refl _ _) ?_;simp only[List.take_succ_cons,List.take_zero,List.drop_succ_cons,List.drop_zero];repeat (go_big_quiet_step ((go_at_call 74;exact hAw (hJ _).o)))
 refine wpQuiet_nil ?_;rintro⟨wy,hy⟩;show wpList _ _ _ _ _ wy;have Hy:=zH ((hy.block n (by have:=Z.o.2;omega)).trans Hc.o);have Hf:=zH ((hy.block (n+1) lt5).trans B.o);have K:=zH ((hy.block b lb5).trans C.o);have ak:=zH (V.o.trans (hAa hy _));clear e0 e3 x0 hJ Hc B C V hy lb5 lt5;have t7:wy.cell? ⟨n+1,7,none⟩=some (.int .i64 0):=(zR wy (n+1) 7 _ _ _ Hf.o).trans rfl;have f7:=frozen_of_row wy (n+1) 7 _ _ Hf.o;have t77:wy.cell? ⟨b,77,none⟩=some Y:=(zR wy b 77 _ _ _ K.o).trans rfl;have f77:=frozen_of_row wy b 77 _ _ K.o;have hI:b≠n+1:=by
  have:=s.o.lt;have:=I.o.size;have:=Z.o.1;omega
 go_wp2_with fail;go_end0;refine⟨rfl,(o4.ext n (tg r.id 5)).ext (n+1) (tg r.id 2),{ z with tb:=n+1,lb:=lb,ms:=ms,tl:=tl,vm:=vm,cm:=cm,mb:=n,M:=A2,mc:=c2,S:=none,sc:=0 },?_⟩;clear t7 f7 t77 f77;have q1:wy.grownBy (wy.setCell ⟨n+1,7,none⟩ (.int .i64 (4*(be:Int)+1))) (some (n+1)):=hAb (hAa (Below.refl _ _) _) (p:=⟨n+1,7,none⟩) (.inl rfl) _;have q2:=heap_setCell_same wy (n+1) 7 _ _ (.int .i64 (4*(be:Int)+1)) Hf.o;have q3:=(q1.block b (zL K.o) (fun e=>hI (Option.some.inj e))).trans K.o;have q4:=(q1.block n (zL Hy.o) (fun e=>by have:=Option.some.inj e;omega)).trans Hy.o;generalize wy.setCell ⟨n+1,7,none⟩ _=wu at q1 q2 q3 q4 ⊢;have p1:wu.grownBy (wu.setCell ⟨b,77,none⟩ (.slice none 0 0)) (some b):=hAb (hAa (Below.refl _ _) _) (p:=⟨b,77,none⟩) (.inl rfl) _;have p2:=(p1.block (n+1) (zL q2) (fun e=>hI (Option.some.inj e).symm)).trans q2;have p3:=heap_setCell_same wu b 77 _ _ (.slice none 0 0) q3;have p4:=(p1.block n (zL q4) (fun e=>by have:=Option.some.inj e;have:=s.o.lt;have:=I.o.size;have:=Z.o.1;omega)).trans q4;have az:=Z.o.1;have f:=I.o;have aq:=s.o.lt;have o4b:o4 b=tg r.id 1:=(Hb.o b aq).trans s.o.2;have ho:∀ x,x<n→((o4.ext n (tg r.id 5)).ext (n+1) (tg r.id 2)) x=o4 x:=fun x a=>(Tags.ext_old _ _ _ _ (by omega)).trans (Tags.ext_old _ _ _ _ a);have on5:((o4.ext n (tg r.id 5)).ext (n+1) (tg r.id 2)) n=tg r.id 5:=(Tags.ext_old _ _ _ _ (by omega)).trans (Tags.ext_new _ _ _ _ (Nat.le_refl _));have on2:((o4.ext n (tg r.id 5)).ext (n+1) (tg r.id 2)) (n+1)=tg r.id 2:=Tags.ext_new _ _ _ _ (Nat.le_refl _);have j:=ak.o;generalize (o4.ext n (tg r.id 5)).ext (n+1) (tg r.id 2)=o5 at ho on5 on2 ⊢;have q:∀ x,x<n→x≠b→(wu.setCell ⟨b,77,none⟩ (.slice none 0 0)).heap[x]?=w4.heap[x]?:=fun x a h=>by
  have ae:x<wy.heap.size:=Nat.lt_of_lt_of_le (by omega) j.size;have aw:x<wu.heap.size:=Nat.lt_of_lt_of_le ae q1.size;rw[p1.block x aw (fun e=>h (Option.some.inj e)),q1.block x ae (fun e=>by have:=Option.some.inj e;omega),j.block x (by omega) (fun e=>h (Option.some.inj e))]
 have av:n≤(wu.setCell ⟨b,77,none⟩ (.slice none 0 0)).heap.size:=by
  have:=j.size;have:=q1.size;have:=p1.size;omega
 have L:Fix (fun t=>t≠tg r.id 1) o4 o5 w4 (wu.setCell ⟨b,77,none⟩ (.slice none 0 0)):=⟨by omega,fun x a F=>⟨ho x (by omega),q x (by omega) (fun e=>F (by rw[e];exact o4b))⟩⟩;have l:Fix (fun t=>t≠tg r.id 1) o o5 w (wu.setCell ⟨b,77,none⟩ (.slice none 0 0)):=⟨Nat.le_trans f.size (by omega),fun x a F=>⟨(ho x (by have:=f.size;omega)).trans (Hb.o x a),(q x (by have:=f.size;omega) (fun e=>F (by rw[e];exact s.o.2))).trans (f.block x a)⟩⟩;have k:(0:Nat)≠tg r.id 1:=(hCe _ _).symm;have h:∀ p,p≠1→tg r.id p≠tg r.id 1:=fun p F=>by unfold tg;omega
 have O:(wu.setCell ⟨b,77,none⟩ (.slice none 0 0)).os=w.os∧(wu.setCell ⟨b,77,none⟩ (.slice none 0 0)).tape=w.tape∧(wu.setCell ⟨b,77,none⟩ (.slice none 0 0)).output=w.output:=⟨p1.os.trans (q1.os.trans (j.os.trans f.os)),p1.tape.trans (q1.tape.trans (j.tape.trans f.tape)),p1.output.trans (q1.output.trans (j.output.trans f.output))⟩;generalize wu.setCell ⟨b,77,none⟩ _=w6 at p2 p3 p4 L l O q av ⊢;refine⟨⟨ag.o,fun p=>?_⟩,⟨O.1,O.2.1,O.2.2,l.size,fun x a=>(ho x (by have:=f.size;omega)).trans (Hb.o x a),fun x a hk=>?_,fun x a hm c hc=>⟨c,(l.block x a (by unfold tg;omega)).2.trans hc⟩⟩,rfl⟩
 ·match p with
  |0=>trivial
  |1=>
   refine⟨p3.trans ?_,(ho b (by have:=f.size;omega)).trans o4b⟩
   congr 2
  |2=>exact⟨p2,on2⟩
  |3=>exact am.o.fix L (h 3 (by decide)) k
  |4=>exact ah.o.fix L (h 4 (by decide)) k
  |5=>exact⟨MpK.empty p4,on5⟩
  |6=>exact RepP.fix l k 6 (h 6 (by decide)) (T.o 6 (by decide))
  |7=>exact RepP.fix l k 7 (h 7 (by decide)) (T.o 7 (by decide))
  |8=>exact RepP.fix l k 8 (h 8 (by decide)) (T.o 8 (by decide))
  |9=>exact⟨[],Row.nil _ _ _ _ _,rfl⟩
  |10=>exact RepP.fix l k 10 (h 10 (by decide)) (T.o 10 (by decide))
  |11=>exact RepP.fix l k 11 (h 11 (by decide)) (T.o 11 (by decide))
  |12=>exact RepP.fix l k 12 (h 12 (by decide)) (T.o 12 (by decide))
  |13=>exact ao.o.fix L k
  |_+14=>trivial
 ·exact(q x (by have:=f.size;omega) (fun e=>hk (by rw[e,s.o.2];unfold tg;omega))).trans (f.block x a)
theorem hEm {o:Tags} {rho:Nat→Rq} {b:Nat} {z:RB} {r:SRep} {be m:Nat} (w:World) (h:RepF w o rho b z r be m) :
  Calls Tryz.prog 268 #[.pointer (some ⟨b,0,none⟩)] w fun e w'=>e=.returned (.bool r.leads)∧Below w.heap.size w w':=by
 have x84:=fun y:Bel w.heap.size w=>y.cell h.lt h.c84;have x0:=fun y:Bel w.heap.size w=>y.cell h.lt h.c0;have x1:=fun y:Bel w.heap.size w=>y.cell h.lt h.c1;have y0:=fun y:Bel w.heap.size w=>y.cell h.tlt h.t0;have y5:=fun y:Bel w.heap.size w=>y.cell h.tlt h.t5;have g:=fun y:Bel w.heap.size w=>zH (hDe y.w (h.keep y.h));have i:=fun y:Bel w.heap.size w=>zH (hBc z.lb (tg r.id 3) o z.ms rho r.log y.w (h.keep y.h).log);have c:=fun y:Bel w.heap.size w=>zH (hCn r.log.v (by have:=h.num.v;omega) y.w (h.keep y.h));obtain⟨q,f⟩:=zN (decide (r.log.v % 4=r.id):Bool);have j:(((r.log.v % 4:Nat):Int) == (r.id:Int))=q:=by
  rw[f,Bool.eq_iff_iff,beq_iff_eq,decide_eq_true_eq];omega
 have a:zI (r.leads=(r.active && q)):=zH (by unfold SRep.leads;rw[f];rfl);clear f h;obtain⟨v4,d⟩:=zN (((r.log.v % 4:Nat):Int));rw[←d] at c j;clear d;cases hact:r.active
 ·rw[hact] at y5 a;go_enter Tryz.func268,Tryz.ntmps268;go_wp2_with fail;refine hAg w.heap.size w (by kernel_rfl) (by kernel_rfl) (Below.refl _ _) ?_;repeat (go_big_quiet_step (fail))
  refine wpQuiet_nil ?_;rintro _ ⟨y,rfl⟩;go_wp2_with fail;go_ret;exact⟨by rw[a.o];rfl,y.h⟩
 ·rw[hact] at y5 a;go_enter Tryz.func268,Tryz.ntmps268;go_wp2_with fail;refine hAg w.heap.size w (by kernel_rfl) (by kernel_rfl) (Below.refl _ _) ?_;repeat (go_big_quiet_step (first | (go_at_call 214;exact hAq (Nat.le_refl _) (g _).o) | (go_at_call 217;exact hAw (i _).o) | (go_at_call 245;exact hAq (Nat.le_refl _) (c _).o)))
  refine wpQuiet_nil ?_;rintro _ ⟨y,rfl⟩;go_wp2_with fail;go_ret;exact⟨by rw[a.o];rfl,y.h⟩
theorem hUr (rho:Nat→Rq) (n k j:Nat) (v:Value) (b:k<9) (h:(wt8 rho (if k=1 then n else 0)).toList[j]?=some v):(waitsL rho n)[8*k+j]?=some v:=by
 have a:j<8:=(List.getElem?_eq_some_iff.1 h).1;obtain rfl | rfl | rfl | rfl | rfl | rfl | rfl | rfl | rfl:k=0∨k=1∨k=2∨k=3∨k=4∨k=5∨k=6∨k=7∨k=8:=by omega
 all_goals
  obtain rfl | rfl | rfl | rfl | rfl | rfl | rfl | rfl:j=0∨j=1∨j=2∨j=3∨j=4∨j=5∨j=6∨j=7:=by omega
  all_goals exact h
theorem RepF.wait_at {o:Tags} {w:World} {rho:Nat→Rq} {b:Nat} {z:RB} {r:SRep} {be m:Nat} (h:RepF w o rho b z r be m) (k:Nat) (a:k<9):w.rangeAt b (5+k*8) (wt8 rho (if k=1 then r.waiting else 0)).toList:=fun j v c=>by
 rw[Nat.add_assoc,Nat.mul_comm k 8];exact h.waits (8*k+j) v (hUr rho r.waiting k j v a c)
theorem hEi (n:Nat) (rho:Nat→Rq):(Tryz.prog.info? 116).map (·.size)=some (wt8 rho n).toList.length:=by
 show _=some 8
 kernel_rfl
theorem hFp (rho:Nat→Rq) (n:Nat):(wt8 rho n).all (·.oneCell')=true:=by unfold wt8;simp[Value.oneCell']
theorem hDu (a:Addr) (w:World):(binOp .eql 110 (.pointer (some a)) (.pointer (some a))).run Tryz.prog w=.ok (.bool true) w:=by
 obtain⟨j,b⟩:∃ j,Tryz.prog.info? 188=some j:=Option.isSome_iff_exists.1 (by kernel_rfl);exact run_eql_ptr_same w a Tryz.underlying110 b
theorem hGd {o:Tags} {rho:Nat→Rq} {b:Nat} {z:RB} {r:SRep} {be m:Nat} (C:r.waiting=0) (w:World) (h:RepF w o rho b z r be m) :
  Calls Tryz.prog 243 #[.pointer (some ⟨b,0,none⟩)] w fun e w'=>e=.returned (.tuple #[])∧Below w.heap.size w w':=by
 have B:=zH h;have x0:=h.c0;have s:=fun w h=>zH (hEm (o:=o) (rho:=rho) (b:=b) (z:=z) (r:=r) (be:=be) (m:=m) w h);clear h;go_enter Tryz.func243,Tryz.ntmps243;go_wp2_with fail;clear x0;go_loopw [3] (fun j wr=>∃ k:Nat,1≤k∧k≤9∧j=.int .i64 k∧zI (Below w.heap.size w wr)) (fun j _=>9 - (intOf j).toNat)
 case atStart=>exact⟨1,by omega,by omega,rfl,zH (Below.refl _ _)⟩
 case round=>
  obtain⟨k,D,G,rfl,g⟩:=hrel;have i:=zH (B.o.keep g.o);have x0:=i.o.c0;have d:=s wr i.o;have E:=hDu ⟨z.tb,0,none⟩ wr;by_cases hk9:k≤8
  ·have q1:(k:Int)≤8:=by omega
   have q0:(1:Int)≤(k:Int):=by omega
   cases hl:r.leads
   ·rw[hl] at d;go_wp2_with fail;refine d.o.mono ?_;rintro e w2 ⟨rfl,a⟩;have f:=zH (zB g.o a);clear a;go_wp2_with fail;go_end0;exact⟨rfl,f.o⟩
   ·rw[hl] at d;go_wp2_with fail;refine d.o.mono ?_;rintro e w2 ⟨rfl,a⟩;have f:=zH (zB g.o a);have u:=zH (i.o.keep a);clear a x0 d;obtain⟨R8,c⟩:=zN (wt8 rho 0:Array Value);have n:=u.o.wait_at k (by omega);rw[C,show(if k=1 then 0 else 0)=0 by split<;>rfl,←c] at n;have v:=zH n;have p:=hEi 0 rho;have l:=hFp rho 0;rw[←c] at p l;have x:=zH p;have t:=zH l;have y:zI (R8.size=8):=zH (by rw[c];rfl);have F:=(zR _ w2.heap.size 0 _ _ _ (heap_alloc_new w2 (.cells R8 116))).trans (show _=some (Value.int .i64 0) by rw[c];rfl);have q:=zH ((Below.refl w2.heap.size w2).alloc (Nat.le_refl _) (.cells R8 116));clear n p l c;go_wp2_with (first
     |refine wpList_load_mid (by rfl) 116 (.tmp 30) (by rfl) b (5+k*8) (by rfl) R8.toList _ v.o Tryz.underlying116 rfl x.o ?_
     |(refine wpList_store_row (by rfl) 116 (.tmp 4) (.tmp 31) (by rfl) w2.heap.size R8 (by rfl) (by rfl) 116 _ (heap_alloc_new w2 _) (by rw[y.o];kernel_rfl) (by rw[y.o];rfl) t.o ?_;rw[World.setRow_alloc_new]))
    exact⟨⟨k+1,by omega,by omega,by go_num,zH (f.o.trans (q.o.mono f.o.size))⟩,by simp[intOf];omega⟩
  ·obtain rfl:k=9:=by omega
   clear hk9;go_wp2_with fail;go_end0;exact⟨rfl,g.o⟩
end Go.Proofs.YtlibpcllceepkaaGreat
