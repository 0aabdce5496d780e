/- Joined texts of the claim. No condition. -/
import Derived.Test.YtlibpcllceepkaaGreatB46
namespace Go.Proofs.YtlibpcllceepkaaGreat
open Go.RowKit
set_option maxRecDepth 100000
set_option linter.unusedVariables false
set_option linter.unusedSimpArgs false
set_option maxHeartbeats 16000000
theorem hDd {W W':SWorld} {f:Nat} {l:List (Nat×SMsg)} (h:SW.push W f l=some W'):W.lane.length+l.length≤4096∧(∀ q∈l,q.2.ok=true)∧W'={ W with lane:=W.lane++l.map fun q=>(f,q.1,q.2) }:=by
 unfold SW.push at h;split at h
 ·rename_i hc;simp only[Bool.and_eq_true,decide_eq_true_eq,List.all_eq_true] at hc;injection h with h;exact⟨hc.1,fun q a=>(hc.2 q a).1,h.symm⟩
 ·cases h
theorem hLm {o:Tags} {rho:Nat→Rq} {b:Nat} {p:WB} {W W':SWorld} {f i:Nat} {x:SMsg} (n:ROk rho) (a:SW.give W f i x=some W') (zz:Sls) (w:World) (h:WorldAt w o rho b p W) (k:(x.fm rho).At w o zz) :
  Calls Tryz.prog 51 #[.pointer (some ⟨b,0,none⟩),.agg (#[.int .i64 f,.int .i64 i]++(x.fm rho).cells zz)] w fun e w'=>e=.returned (.tuple #[])∧∃ o',WorldAt w' o' rho b p W'∧ChgW o o' w w':=by
 unfold SW.give at a;split at a
 ·rename_i hi;subst hi;cases hc:SW.cHandle W.cli f x with
  |none=>rw[hc] at a;cases a
  |some c=>
   rw[hc] at a;injection a with a;subst a;exact hG6 n hc zz w h k
 ·split at a
  ·cases a
  ·rename_i hi;have l:i<4:=by simpa using hi
   split at a
   ·rename_i g;injection a with a;subst a;refine(hIg l g (x.fm rho) zz w h).mono ?_;rintro e w' ⟨j,d⟩;exact⟨j,o,h.keep d,ChgW.below d (fun _ _=>rfl)⟩
   ·rename_i r g;obtain⟨_,rfl⟩:=hFa g;split at a
    ·cases a
    ·rename_i r' q;split at a
     ·rename_i m;obtain⟨j,d,rfl⟩:=hDd a;exact hG7 n g q m j d zz w h k
     ·cases a
theorem hRk {o:Tags} {rho:Nat→Rq} {b:Nat} {p:WB} {W W':SWorld} (J:ROk rho) (q:SW.take W=some W') (w:World) (h:WorldAt w o rho b p W) :
  Calls Tryz.prog 25 #[.pointer (some ⟨b,0,none⟩),.int .i64 0] w fun e w'=>e=.returned (.int .i64 0)∧∃ o',WorldAt w' o' rho b p W'∧ChgW o o' w w':=by
 unfold SW.take at q;split at q
 ·cases q
 ·rename_i f i x rest I;have n:=h.lane;rw[I] at n;have v:=zH (hTb p.lb p.bb p.mb (tg 5 0) (by decide) o (pkW rho (f,i,x)) (rest.map (pkW rho)) w n);obtain⟨_,_,c2,_⟩:=h.c;have K:=zH h;have N:=zH q;have M:=zH J;clear h q J n I;go_enter Tryz.func25,Tryz.ntmps25;go_wp2_with fail;refine v.o.mono ?_;rintro e w2 ⟨zz,rfl,k,B,l⟩;have D:=K.o.lane_set l B;obtain⟨L,s⟩:=zN (.int .i64 f::.int .i64 i::((x.fm rho).cells zz).toList:List Value);have a:#[.int .i64 ((pkW rho (f,i,x)).1:Int),.int .i64 ((pkW rho (f,i,x)).2.1:Int)]++(pkW rho (f,i,x)).2.2.cells zz=L.toArray:=by rw[s];rfl
  have d:#[.int .i64 f,.int .i64 i]++(x.fm rho).cells zz=L.toArray:=a;have j:L.length=19:=by rw[s];rfl
  have y:∀ u∈L,u.oneCell'=true:=PkV.one (w:=w2) (o:=o) (p:=pkW rho (f,i,x)) ⟨zz,s,k⟩;rw[a];have g:=(Below.refl w2.heap.size w2).alloc (Nat.le_refl _) (.cells L.toArray 92);have C:=heap_alloc_new w2 (.cells L.toArray 92);have m:=hLm M.o N.o zz _ (D.keep g) (FM.At.fix (P:=fun _=>True) k (Fix.same (o:=o) g) trivial);rw[d] at m;have t:=zH m;have F:=zH ((ChgW.of_chg l (by decide)).trans (ChgW.below (o':=o) g (fun _ _=>rfl)));have r:=zH (And.intro j (And.intro (show L.toArray.size=19 by simpa using j) (all_oneCell_toArray y)));have H:=zH (hEc C);clear D s a d j y g C m k B l v c2;go_wp2_with (first
   |(refine wpList_store_row (by rfl) 92 (.tmp 5) (.tmp 14) (by rfl) w2.heap.size L.toArray (by rfl) (by rfl) 92 _ (heap_alloc_new w2 _) (hGw L.toArray r.o.2.1) (by rw[r.o.2.1];rfl) r.o.2.2 ?_;rw[World.setRow_alloc_new])
   |refine wpList_load_mid (by rfl) 92 (.tmp 5) (by rfl) w2.heap.size 0 (by rfl) L _ H.o Tryz.underlying92 rfl (hEb L r.o.1) ?_)
  refine t.o.mono ?_;rintro e w5 ⟨rfl,o5,E,z⟩;have G:=zH (And.intro E (F.o.trans z));clear E z t;go_wp2_with fail;go_ret;exact⟨rfl,o5,G.o.1,G.o.2⟩
def Alike (W W':SWorld):Prop:=W'.reps.map (·.id)=W.reps.map (·.id)∧W'.cli.stamp=W.cli.stamp
theorem Alike.refl (W:SWorld):Alike W W:=⟨rfl,rfl⟩
theorem Alike.trans {A B C:SWorld} (h:Alike A B) (k:Alike B C):Alike A C:=⟨k.1.trans h.1,k.2.trans h.2⟩
theorem hDc {W W':SWorld} {f:Nat} {l:List (Nat×SMsg)} (h:SW.push W f l=some W'):W'.reps=W.reps∧W'.cli=W.cli∧W'.now=W.now:=by
 obtain⟨_,_,rfl⟩:=hDd h;exact⟨rfl,rfl,rfl⟩
theorem hK0 {c c':SCli} {f:Nat} {x:SMsg} (h:SW.cHandle c f x=some c'):c'.stamp=c.stamp:=by
 unfold SW.cHandle at h;split at h
 ·cases h
 ·split at h
  ·unfold SW.cReply at h;split at h
   ·cases h
   ·split at h
    ·injection h with h;rw[←h]
    ·split at h
     ·cases h
     ·injection h with h;rw[←h];split<;>rfl
  ·injection h with h;rw[←h]
  ·cases h
theorem hQm {W W':SWorld} {f i:Nat} {x:SMsg} (h:SW.give W f i x=some W'):Alike W W':=by
 unfold SW.give at h;split at h
 ·cases hc:SW.cHandle W.cli f x with
  |none=>rw[hc] at h;cases h
  |some c=>
   rw[hc] at h;injection h with h;rw[←h];exact⟨rfl,hK0 hc⟩
 ·split at h
  ·cases h
  ·split at h
   ·injection h with h;rw[←h];exact Alike.refl _
   ·split at h
    ·cases h
    ·split at h
     ·obtain⟨a,b,_⟩:=hDc h;refine⟨?_,by rw[b]⟩;rw[a];exact hDy _ _
     ·cases h
theorem hRf {W W':SWorld} (h:SW.take W=some W'):Alike W W':=by
 unfold SW.take at h;split at h
 ·cases h
 ·have a:=hQm h;exact⟨a.1,a.2⟩
theorem hEr {f:SWorld→Option SWorld} (a:∀ W W',f W=some W'→Alike W W') (n:Nat):∀ (W W':SWorld),SW.times f n W=some W'→Alike W W':=by
 induction n with
 |zero=>
  intro W W' h;rw[SW.times] at h;rw[Option.some.inj h];exact Alike.refl _
 |succ n ih=>
  intro W W' h;rw[SW.times] at h;cases hv:f W with
  |none=>rw[hv] at h;cases h
  |some V=>
   rw[hv] at h;exact(a _ _ hv).trans (ih V W' h)
theorem hO8 {W W':SWorld} (h:SW.round W=some W'):Alike W W':=hEr (f:=SW.take) (fun _ _=>hRf) W.lane.length W W' (show SW.times SW.take W.lane.length W=some W' from h)
theorem hEo {W W':SWorld} (h:SW.flush W=some W'):Alike W W':=hEr (f:=SW.round) (fun _ _=>hO8) 8 W W' (show SW.times SW.round 8 W=some W' from h)
theorem hKv (W:SWorld):SW.tickR [] W=some W:=rfl
theorem hJc (i:Nat) (l:List Nat) (W:SWorld):SW.tickR (i::l) W=(match SW.find W.reps i with
  |none=>none
  |some r=>match r.tick W.now with
   |none=>none
   |some r'=>if r'.id=r.id then(match SW.push { W with reps:=SW.setRep W.reps { r' with o:=[] } } i r'.o with
    |none=>none
    |some w=>SW.tickR l w) else none):=by
 exact(rfl)
theorem hPh (l:List Nat):∀ (W W':SWorld),SW.tickR l W=some W'→Alike W W'∧W'.now=W.now:=by
 induction l with
 |nil=>
  intro W W' h;rw[hKv] at h;rw[Option.some.inj h];exact⟨Alike.refl _,rfl⟩
 |cons i l ih=>
  intro W W' h;rw[hJc] at h;split at h
  ·cases h
  ·split at h
   ·cases h
   ·split at h
    ·split at h
     ·cases h
     ·rename_i V d;obtain⟨a,b,c⟩:=hDc d;obtain⟨k1,k2⟩:=ih V W' h;refine⟨Alike.trans (B:=V) ⟨?_,by rw[b]⟩ k1,k2.trans c⟩;rw[a];exact hDy _ _
    ·cases h
theorem hOj {W W':SWorld} (h:SW.cTick W=some W'):Alike W W'∧W'.now=W.now:=by
 unfold SW.cTick at h;split at h
 ·cases h
 ·split at h
  ·obtain⟨a,b,c⟩:=hDc h;exact⟨⟨by rw[a],by rw[b]⟩,c⟩
  ·injection h with h;rw[h];exact⟨Alike.refl _,rfl⟩
theorem hRh {W W':SWorld} (h:SW.tick W=some W'):Alike W W':=by
 unfold SW.tick at h;split at h
 ·cases h
 ·split at h
  ·cases h
  ·rename_i V a;exact Alike.trans (B:=V) (hPh _ _ _ a).1 (hOj h).1
theorem hHn {W W':SWorld} (h:SW.tickF W=some W'):Alike W W':=by
 unfold SW.tickF at h;split at h
 ·cases h
 ·rename_i V a;exact(hRh a).trans (hEo h)
theorem hNp {W W':SWorld} (h:SW.settle W=some W'):Alike W W':=by
 unfold SW.settle at h;split at h
 ·cases h
 ·rename_i V a;exact(hEo a).trans (hEr (f:=SW.tickF) (fun _ _=>hHn) 24 V W' h)
theorem hFy {W W':SWorld} (h:SW.ask W=some W'):W.cli.open_=false∧SW.cok W.cli=true∧W.cli.stamp<8∧W.cli.acc=W.cli.stamp ∧
  SW.push { W with cli:={ W.cli with stamp:=W.cli.stamp+1,open_:=true,came:=[] } } 101 (SW.tell4 ⟨1,0,0,W.cli.stamp+1,[]⟩)=some W':=by
 unfold SW.ask at h;split at h
 ·cases h
 ·rename_i hc;simp only[Bool.or_eq_true,Bool.not_eq_true',beq_eq_false_iff_ne,ne_eq,decide_eq_false_iff_not,not_or,Bool.not_eq_true,Bool.not_eq_false,Classical.not_not] at hc;exact⟨hc.1.1.1,hc.1.1.2,hc.1.2,hc.2,h⟩
theorem hKc {W W':SWorld} (h:SW.one W=some W'):∃ V,SW.ask W=some V∧SW.settle V=some W'∧W'.cli.acc=W'.cli.stamp∧W'.cli.open_=false:=by
 unfold SW.one at h;split at h
 ·cases h
 ·rename_i V b;split at h
  ·cases h
  ·rename_i U a;split at h
   ·rename_i hc;injection h with h;subst h;simp only[Bool.and_eq_true,decide_eq_true_eq,Bool.not_eq_true'] at hc;exact⟨V,b,a,hc.1,hc.2⟩
   ·cases h
theorem hTp {W W':SWorld} (h:SW.one W=some W'):W'.reps.map (·.id)=W.reps.map (·.id)∧W'.cli.stamp=W.cli.stamp+1∧W'.cli.acc=W'.cli.stamp:=by
 obtain⟨V,a,b,c,_⟩:=hKc h;obtain⟨_,_,_,_,d⟩:=hFy a;obtain⟨a1,a2,_⟩:=hDc d;obtain⟨b1,b2⟩:=hNp b;exact⟨by rw[b1,a1],by rw[b2,a2],c⟩
theorem hJe (f:SWorld→Option SWorld):∀ n (W:SWorld),SW.times f (n+1) W=(match SW.times f n W with | none=>none | some V=>f V)
 |0,W=>by
  simp only[SW.times];cases f W<;>rfl
 |n+1,W=>by
  rw[SW.times];cases hf:f W with
  |none=>simp only[SW.times,hf]
  |some V=>
   simp only[hJe f n V];rw[SW.times,hf]
theorem hIc (f:SWorld→Option SWorld) {n:Nat} {W W':SWorld} (h:SW.times f (n+1) W=some W'):∃ V,SW.times f n W=some V∧f V=some W':=by
 rw[hJe] at h;split at h
 ·cases h
 ·exact⟨_,‹_›,h⟩
theorem hJd (f:SWorld→Option SWorld) {W:SWorld}:∀ (m n:Nat) {W':SWorld},SW.times f (n+m) W=some W'→∃ V,SW.times f n W=some V
 |0,n,W',h=>⟨W',h⟩
 |m+1,n,W',h=>by
  obtain⟨V,a,_⟩:=hIc f (n:=n+m) h;exact hJd f m n a
theorem hGh (ids:List Nat) (k:Nat):∀ (W:SWorld),SW.run ids k=some W→W.reps.map (·.id)=ids∧W.cli.stamp=k∧W.cli.acc=k:=by
 induction k with
 |zero=>
  intro W h;have a:SW.times SW.one 0 (SW.init ids)=some W:=h;rw[SW.times] at a;rw[←Option.some.inj a];refine⟨?_,rfl,rfl⟩;show(ids.map SRep.new).map (·.id)=ids;rw[List.map_map];exact List.map_id'' (fun _=>rfl) ids
 |succ k ih=>
  intro W h;obtain⟨V,b,c⟩:=hIc SW.one (show SW.times SW.one (k+1) (SW.init ids)=some W from h);obtain⟨a1,a2,_⟩:=ih V b;obtain⟨b1,b2,b3⟩:=hTp c;exact⟨b1.trans a1,by rw[b2,a2],by rw[b3,b2,a2]⟩
theorem MpK.ownsI {w:World} {b:Nat} {kv:List (Int×Value)} (h:MpK 3 w b (kv.map fun p=>(.int .i64 p.1,p.2))) (q:kv.length≤1000):∃ D0:DataW Unit,w.ownsMap Tryz.prog 3 oneR b 1000 D0∧(Go.intKeys D0).Perm (kv.map Prod.fst)∧Maps.size D0=kv.length:=by
 obtain⟨es,cl,i,f,j,o,k⟩:=h;have g:es.toList.length=kv.length:=by
  have:=congrArg List.length f;simpa using this
 have d:∀ x∈es.toList,∃ kl,keyOf Tryz.prog 3 x.key=some kl∧WideElems.rd Tryz.prog 3 oneR x=some (kl,.lit (.bool true)):=fun x a=>by
  obtain⟨kl,c⟩:=j (x.key,x.val) (by rw[←f];exact List.mem_map.2 ⟨x,a,rfl⟩);exact⟨kl,c,by unfold WideElems.rd;rw[c];rfl⟩
 refine⟨_,⟨es,cl,i,⟨?_,k,fun x a=>?_⟩,?_,rfl⟩,?_,?_⟩
 ·have:es.toList.length=es.size:=Array.length_toList;unfold maxLen;omega
 ·obtain⟨kl,_,h⟩:=d x a;exact⟨_,h⟩
 ·have:es.toList.length=es.size:=Array.length_toList;omega
 ·have m:(es.toList.map (WideElems.rg Tryz.prog 3 oneR)).map (fun p=>Go.intOf p.1)=kv.map Prod.fst:=by
   have e:kv.map Prod.fst=(kv.map fun p=>((.int .i64 p.1:Value),p.2)).map (fun p=>match p.1 with | .int _ s=>s | _=>0):=by
    rw[List.map_map];rfl
   rw[e,←f,List.map_map,List.map_map];apply List.map_congr_left;intro x a;obtain⟨kl,c,l⟩:=d x a;simp only[Function.comp,WideElems.rg_of l];obtain⟨s,n,rfl,_⟩:=Maps.keyOf_i64 Tryz.underlying3 c;rw[n];rfl
  show((es.toList.map (WideElems.rg Tryz.prog 3 oneR)).foldr DataW.insert []).map (fun p=>Go.intOf p.1) |>.Perm _
  rw[←m];exact(WideShapes.sorted_perm _).map _
 ·show((es.toList.map (WideElems.rg Tryz.prog 3 oneR)).foldr DataW.insert []).length=_;rw[(WideShapes.sorted_perm _).length_eq,List.length_map,g]
theorem hKu {l:List Int} (h:l.Pairwise (· < ·)):l.mergeSort (fun x y=>decide (x≤y))=l:=by
 have a:l.Pairwise (fun x y=>(fun x y:Int=>decide (x≤y)) x y=true):=h.imp fun h=>by
  have:=Int.le_of_lt h;simpa using this
 first
  |exact List.mergeSort_of_pairwise a
  |exact List.mergeSort_of_sorted a
theorem hY9 (mb:Nat) (w:World):Calls Tryz.prog 55 #[.map (some mb)] w fun e w'=>e=.returned (.func (.func 79) #[] #[.pointer (some ⟨w.heap.size,0,none⟩)])∧w'=w.alloc (.cells #[.map (some mb)] 75):=Tryz.maps_Keys_55 (some mb) w
theorem hY8 (mb:Nat) (w:World):Calls Tryz.prog 56 #[.map (some mb)] w fun e w'=>e=.returned (.func (.func 80) #[] #[.pointer (some ⟨w.heap.size,0,none⟩)])∧w'=w.alloc (.cells #[.map (some mb)] 76):=Tryz.maps_Keys_56 (some mb) w
theorem hWl (mb:Nat) (kv:List (Int×Value)) (k:kv.length≤1000) (l:(kv.map Prod.fst).Pairwise (· < ·)) (w:World) (h:MpK 3 w mb (kv.map fun p=>(.int .i64 p.1,p.2))) :
  Calls Tryz.prog 54 #[.func (.func 79) #[] #[.pointer (some ⟨w.heap.size,0,none⟩)]] (w.alloc (.cells #[.map (some mb)] 75)) fun e w'=>∃ v,e=.returned v ∧
   w'.ownsRow w.heap.size 3 1 v kv.length ((kv.map Prod.fst).map encZ)∧Below w.heap.size w w':=by
 obtain⟨D0,i,d,f⟩:=h.ownsI k;refine(Tryz.slices_Sorted_54_55 mb 1000 D0 oneR w i (by rw[f];unfold maxLen;omega) (by rw[f];omega)).mono ?_;rintro e w' ⟨v,ss,rfl,g,a,_,j⟩;have b:Below w.heap.size w (w.alloc (.cells #[.map (some mb)] 75)):=(Below.refl _ _).alloc (Nat.le_refl _) _;have c:ss.length=kv.length:=by rw[g.length_eq,d.length_eq,List.length_map]
 refine⟨v,rfl,?_,b.trans (j.mono b.size)⟩;rw[Go.mergeSort_of_perm_i (g.trans d),hKu l,c] at a;exact ownsRow_base_a a (by simp)
theorem hWk (mb:Nat) (kv:List (Int×Value)) (k:kv.length≤1000) (l:(kv.map Prod.fst).Pairwise (· < ·)) (w:World) (h:MpK 3 w mb (kv.map fun p=>(.int .i64 p.1,p.2))) :
  Calls Tryz.prog 54 #[.func (.func 80) #[] #[.pointer (some ⟨w.heap.size,0,none⟩)]] (w.alloc (.cells #[.map (some mb)] 76)) fun e w'=>∃ v,e=.returned v ∧
   w'.ownsRow w.heap.size 3 1 v kv.length ((kv.map Prod.fst).map encZ)∧Below w.heap.size w w':=by
 obtain⟨D0,i,d,f⟩:=h.ownsI k;refine(Tryz.slices_Sorted_54_56 mb 1000 D0 oneR w i (by rw[f];unfold maxLen;omega) (by rw[f];omega)).mono ?_;rintro e w' ⟨v,ss,rfl,g,a,_,j⟩;have b:Below w.heap.size w (w.alloc (.cells #[.map (some mb)] 76)):=(Below.refl _ _).alloc (Nat.le_refl _) _;have c:ss.length=kv.length:=by rw[g.length_eq,d.length_eq,List.length_map]
 refine⟨v,rfl,?_,b.trans (j.mono b.size)⟩;rw[Go.mergeSort_of_perm_i (g.trans d),hKu l,c] at a;exact ownsRow_base_a a (by simp)
def BadS (w:World) (A:Option Addr) (n c:Nat) (l:List Int):Prop:=n=0∧A=none∧c=0∧l=[]∨n=1∧∃ g d,A=some ⟨g,0,none⟩∧l=[d]∧g<w.heap.size∧w.cell? ⟨g,0,none⟩=some (.int .i64 d)
theorem BadS.keep {w w':World} {A:Option Addr} {n c:Nat} {l:List Int} (h:BadS w A n c l) (b:Below w.heap.size w w'):BadS w' A n c l:=by
 rcases h with h | ⟨e,g,d,f,i,a,j⟩
 ·exact .inl h
 ·exact .inr ⟨e,g,d,f,i,Nat.lt_of_lt_of_le a b.size,(b.cell (p:=⟨g,0,none⟩) a).trans j⟩
theorem hJy {w:World} {g:Nat} {d:Int} (h:w.cell? ⟨g,0,none⟩=some (.int .i64 d)):∀ j,j < [d].length→w.cell? ⟨g,0+j,none⟩=some (.int .i64 ([d].getD j 0)):=by
 intro j a;obtain rfl:j=0:=by simpa using a
 exact h
theorem hPk {w:World} {A:Option Addr} {n c:Nat} {l:List Int} (x:Int) (h:BadS w A n c l):Calls Tryz.prog 21 #[.slice A n c,.int .i64 x] w fun e w'=>e=.returned (.bool (l.contains x))∧w'=w:=by
 rcases h with⟨rfl,rfl,rfl,rfl⟩ | ⟨rfl,g,d,rfl,rfl,_,h⟩
 ·exact Tryz.slices_Contains_int_empty none 0 x w
 ·exact Tryz.slices_Contains_int g 0 1 c [d] x w (by simp) (by omega) (hJy h)
theorem hRw {w:World} {A:Option Addr} {n c:Nat} {l:List Int} (h:BadS w A n c l):Calls Tryz.prog 43 #[.slice A n c] w fun e w'=>(∃ A' n' c',e=.returned (.slice A' n' c'))∧Below w.heap.size w w':=by
 rcases h with⟨rfl,rfl,rfl,rfl⟩ | ⟨rfl,g,d,rfl,rfl,_,h⟩
 ·refine(Tryz.slices_Clone_int_nil 0 0 w).mono ?_;rintro e w' ⟨rfl,rfl⟩;exact⟨⟨_,_,_,rfl⟩,Below.refl _ _⟩
 ·refine(Tryz.slices_Clone_int g 0 1 c [d] w (by simp) (by omega) (hJy h)).mono ?_;rintro e w' ⟨v,rfl,a,_,b⟩;obtain⟨A',c',rfl⟩:=hAk a;exact⟨⟨_,_,_,rfl⟩,b⟩
theorem hVg {w:World} {A:Option Addr} {n c:Nat} {l:List Int} (h:BadS w A n c l) :
  Calls Tryz.prog 20 #[.slice A n c] w fun e w'=>∃ b bb mb,e=.returned (.pointer (some ⟨b,0,none⟩))∧Below w.heap.size w w'∧∀ o:Tags,(∀ x,w.heap.size≤x→x<w'.heap.size→o x=tg 5 0)→LaneAt w' o (tg 5 0) b bb mb []:=by
 have k:=zH (hRw h);clear h;go_enter Tryz.func20,Tryz.ntmps20;go_wp2_with fail;refine k.o.mono ?_;rintro e w1 ⟨⟨A',n',c',rfl⟩,q⟩;have f:=zH q;clear q k;go_wp2_with fail;refine(hU0 w1).mono ?_;rintro e w2 ⟨bb,mb,rfl,s,t,a,d,r⟩;have j:=zH (zB f.o r);have g:=zH (And.intro a d);have m:=zH (And.intro (Nat.le_trans f.o.size s) (Nat.le_trans f.o.size t));clear s t a d r f;go_wp2_with fail;go_ret;have i:=(Below.refl w2.heap.size w2).alloc (Nat.le_refl _) (.cells #[.slice A' n' c',.slice none 0 0,.pointer (some ⟨bb,0,none⟩)] 131);have v:=heap_alloc_new w2 (.cells #[.slice A' n' c',.slice none 0 0,.pointer (some ⟨bb,0,none⟩)] 131);refine⟨w2.heap.size,bb,mb,rfl,zB j.o i,fun o u=>?_⟩;have a:=(i.block _ (zL g.o.1)).trans g.o.1;have d:=g.o.2.fix (P:=fun _=>True) (Fix.same (o:=o) i) trivial;exact⟨⟨A',n',c',none,0,[],⟨v,u _ j.o.size (zL v)⟩,Row.nil _ _ _ _ _,rfl⟩,⟨⟨a,u _ m.o.1 (zL a)⟩,⟨[],d,fun p y=>by cases y⟩,u _ m.o.2 d.lt⟩,Nat.zero_le _⟩
def idsU (l:List Int) (k:Nat):List Nat:=(List.range k).filter fun i=>!l.contains (i:Int)
theorem hGt {l:List Int} {k i:Nat} (h:i∈idsU l k):i<k:=by
 unfold idsU at h;rw[List.mem_filter,List.mem_range] at h;exact h.1
theorem hVc {l:List Int} {k:Nat} (h:l.contains (k:Int)=true):idsU l (k+1)=idsU l k:=by
 unfold idsU;rw[List.range_succ,List.filter_append,List.filter_cons_of_neg (by simpa using h)];simp
theorem hXi {l:List Int} {k:Nat} (h:l.contains (k:Int)=false):idsU l (k+1)=idsU l k++[k]:=by
 unfold idsU;rw[List.range_succ,List.filter_append,List.filter_cons_of_pos (by simpa using h)];simp
structure NewW (w0 w:World) (o:Tags) (rho:Nat→Rq) (B gc rm cm lb bb mb:Nat) (rb:Nat→Nat) (A:Option Addr) (c:Nat) (l:List Int) (k:Nat):Prop where
 bel:Below w0.heap.size w0 w
 tags:∀ x,x<w0.heap.size→o x=0
 conf:w.heap[gc]?=some (.cells #[.int .i64 0,.slice A 4 c] 31 (0,0))
 mem:Mem w A c
 blk:Blk w o (tg 6 1) B 80 #[.map (some rm),.map (some cm),.pointer (some ⟨lb,0,none⟩),.int .i64 0]
 rmap:MpK 3 w rm (repL ⟨rm,cm,lb,bb,mb,0,rb⟩ ((idsU l k).map SRep.new))∧o rm=tg 6 3
 cmap:MpK 3 w cm []∧o cm=tg 6 4
 lane:LaneAt w o (tg 5 0) lb bb mb []
 reps:∀ i∈idsU l k,∃ z,RepF w o rho (rb i) z (SRep.new i) 0 0
 free:∀ x,x<w.heap.size→∀ i,k≤i→i<4→o x / 16≠i+1
theorem NewW.skip {w0 w:World} {o:Tags} {rho:Nat→Rq} {B gc rm cm lb bb mb:Nat} {rb:Nat→Nat} {A:Option Addr} {c:Nat} {l:List Int} {k:Nat} (h:NewW w0 w o rho B gc rm cm lb bb mb rb A c l k) (hc:l.contains (k:Int)=true):NewW w0 w o rho B gc rm cm lb bb mb rb A c l (k+1):=by
 have e:=hVc hc;exact⟨h.bel,h.tags,h.conf,h.mem,h.blk,by rw[e];exact h.rmap,h.cmap,h.lane,by rw[e];exact h.reps,fun x b i hi a=>h.free x b i (by omega) a⟩
def reTag (n k:Nat) (o o1:Tags):Tags:=fun x=>if x<n then o x else if o1 x=0∨o1 x / 16=k then o1 x else 0
theorem hTu {w w1:World} {o o1:Tags} {k:Nat} (c:Below w.heap.size w w1) (b:∀ x,x<w.heap.size→o1 x=o x):Fix (fun t=>t=0∨t / 16=k) o1 (reTag w.heap.size k o o1) w1 w1:=
 ⟨Nat.le_refl _,fun x _ a=>⟨by
  unfold reTag;by_cases hx:x<w.heap.size
  ·rw[if_pos hx,b x hx]
  ·rw[if_neg hx,if_pos a],rfl⟩⟩
theorem hTv {n k x:Nat} {o o1:Tags} (h:x<n):reTag n k o o1 x=o x:=if_pos h
theorem NewW.add {w0 w w1 w2:World} {o o1:Tags} {rho:Nat→Rq} {B gc rm cm lb bb mb:Nat} {rb:Nat→Nat} {A:Option Addr} {c:Nat} {l:List Int} {k b1:Nat} {z1:RB} (h:NewW w0 w o rho B gc rm cm lb bb mb rb A c l k) (L:k<4) (hc:l.contains (k:Int)=false)
  (I:RepF w1 o1 rho b1 z1 (SRep.new k) 0 0) (H:∀ x,x<w.heap.size→o1 x=o x) (b:Below w.heap.size w w1)
  (G:MpK 3 w2 rm (repL ⟨rm,cm,lb,bb,mb,0,rb⟩ ((idsU l k).map SRep.new)++[(.int .i64 k,.pointer (some ⟨b1,0,none⟩))])) (g:w1.grownBy w2 (some rm)) :
  NewW w0 w2 (reTag w.heap.size (k+1) o o1) rho B gc rm cm lb bb mb (fun i=>if i=k then b1 else rb i) A c l (k+1):=by
 have d:∀ x,x<w.heap.size→reTag w.heap.size (k+1) o o1 x=o x:=fun x f=>hTv f;have f1:Fix (fun _=>True) o (reTag w.heap.size (k+1) o o1) w w1:=Fix.below b d;obtain⟨r1,r2⟩:=h.rmap.1.fixT f1 trivial;obtain⟨c1,c2⟩:=h.cmap.1.fixT f1 trivial;have r:=r2.trans h.rmap.2;have n:=c2.trans h.cmap.2;have m:Chg (tg 6 3) (reTag w.heap.size (k+1) o o1) (reTag w.heap.size (k+1) o o1) w1 w2:=Chg.grown g (fun y J _=>by cases J;exact r);have f2:Fix (fun t=>t≠tg 6 3) (reTag w.heap.size (k+1) o o1) (reTag w.heap.size (k+1) o o1) w1 w2:=m.fix (by simp);have e:=hXi hc;obtain⟨d1,d2⟩:=c1.fixT f2 (by rw[n];decide);have a:∀ i∈idsU l k,(if i=k then b1 else rb i)=rb i:=fun i hi=>if_neg (by have:=hGt hi;omega);have u:=(zL h.conf);refine⟨?_,fun x f=>(d x (Nat.lt_of_lt_of_le f h.bel.size)).trans (h.tags x f),hCc ((b.block gc u).trans h.conf) r1 g,(h.mem.keep b).map_grown r1 g,(h.blk.fix f1 trivial).fix f2 (by decide),⟨?_,(m.tags rm r1.lt).trans r⟩,⟨d1,d2.trans n⟩,(h.lane.fix f1 trivial trivial).fix f2 (by decide) (by decide),fun i hi=>?_,fun x f i hi C=>?_⟩
 ·have E:w0.heap.size≤rm:=by
   rcases Nat.lt_or_ge rm w0.heap.size with p | hge
   ·have v:=h.tags rm p;rw[h.rmap.2] at v;exact absurd v (by decide)
   ·exact hge
  have j:=h.bel.trans (b.mono h.bel.size);exact j.trans (hAj g j.size E)
 ·rw[e,List.map_append,show repL ⟨rm,cm,lb,bb,mb,0,fun i=>if i=k then b1 else rb i⟩ ((idsU l k).map SRep.new++[k].map SRep.new)=repL ⟨rm,cm,lb,bb,mb,0,rb⟩ ((idsU l k).map SRep.new)++[(.int .i64 k,.pointer (some ⟨b1,0,none⟩))] from by
   unfold repL;rw[List.map_append]
   congr 1
   ·rw[List.map_map,List.map_map];apply List.map_congr_left;intro i hi;have F:=a i hi;show(Value.int .i64 ((SRep.new i).id:Int),Value.pointer (some ⟨if (SRep.new i).id=k then b1 else rb (SRep.new i).id,0,none⟩))=_;rw[show(SRep.new i).id=i from rfl,F];rfl
   ·show [(Value.int .i64 ((SRep.new k).id:Int),Value.pointer (some ⟨if (SRep.new k).id=k then b1 else rb (SRep.new k).id,0,none⟩))]=_;rw[show(SRep.new k).id=k from rfl,if_pos rfl]]
  exact G
 ·rw[e] at hi;rcases List.mem_append.1 hi with hi | hi
  ·obtain⟨z,K⟩:=h.reps i hi;have p:=hGt hi;refine⟨z,?_⟩;show RepF w2 _ rho (if i=k then b1 else rb i) z (SRep.new i) 0 0;rw[a i hi];exact(K.fix16 f1 trivial (fun _ _=>trivial)).fix16 f2 (by decide) (fun q D=>by show tg i q≠tg 6 3;unfold tg;omega)
  ·obtain rfl:i=k:=by simpa using hi
   refine⟨z1,?_⟩;show RepF w2 _ rho (if i=i then b1 else rb i) z1 (SRep.new i) 0 0;rw[if_pos rfl];exact(I.fix16 (hTu b H) (.inl rfl) (fun q D=>.inr (by show tg i q / 16=i+1;unfold tg;omega))).fix16 f2 (by decide) (fun q D=>by show tg i q≠tg 6 3;unfold tg;omega)
 ·unfold reTag;by_cases hx1:x<w.heap.size
  ·rw[if_pos hx1];exact h.free x hx1 i (by omega) C
  ·rw[if_neg hx1];split
   ·rename_i s;rcases s with s | s<;>omega
   ·omega
theorem NewW.done {w0 w w1 w2:World} {o o1:Tags} {rho:Nat→Rq} {B gc rm cm lb bb mb:Nat} {rb:Nat→Nat} {A:Option Addr} {c:Nat} {l:List Int} {cb:Nat} {z:CB} (h:NewW w0 w o rho B gc rm cm lb bb mb rb A c l 4)
  (hc:CliAt w1 o1 rho cb z cli0) (n:∀ x,x<w.heap.size→o1 x=o x) (j:Below w.heap.size w w1)
  (s:MpK 3 w2 cm [(.int .i64 1,.pointer (some ⟨cb,0,none⟩))]) (m:w1.grownBy w2 (some cm)) :
  WorldAt w2 o1 rho B ⟨rm,cm,lb,bb,mb,cb,rb⟩ (SW.init (idsU l 4))∧Below w0.heap.size w0 w2∧∀ x,x<w0.heap.size→o1 x=0:=by
 have f1:Fix (fun _=>True) o o1 w w1:=Fix.below j n;obtain⟨r1,r2⟩:=h.rmap.1.fixT f1 trivial;obtain⟨c1,c2⟩:=h.cmap.1.fixT f1 trivial;have f:=r2.trans h.rmap.2;have d:=c2.trans h.cmap.2;have b:Chg (tg 6 4) o1 o1 w1 w2:=Chg.grown m (fun y C _=>by cases C;exact d);have f2:Fix (fun t=>t≠tg 6 4) o1 o1 w1 w2:=b.fix (by simp);obtain⟨s1,s2⟩:=r1.fixT f2 (by rw[f];decide);have k:w0.heap.size≤cm:=by
  rcases Nat.lt_or_ge cm w0.heap.size with e | hge
  ·have g:=h.tags cm e;rw[h.cmap.2] at g;exact absurd g (by decide)
  ·exact hge
 have a:=h.bel.trans (j.mono h.bel.size);refine⟨⟨(h.blk.fix f1 trivial).fix f2 (by decide),⟨s1,s2.trans f⟩,⟨s,(b.tags cm c1.lt).trans d⟩,(h.lane.fix f1 trivial trivial).fix f2 (by decide) (by decide),fun r v=>?_,⟨z,hc.fix16 f2 (by decide) (fun q u=>by unfold tg;omega)⟩,?_,Nat.zero_le _⟩,a.trans (hAj m a.size k),fun x p=>(n x (Nat.lt_of_lt_of_le p h.bel.size)).trans (h.tags x p)⟩
 ·obtain⟨i,hi,rfl⟩:=List.mem_map.1 v;obtain⟨z,D⟩:=h.reps i hi;have e:=hGt hi;exact⟨z,(D.fix16 f1 trivial (fun _ _=>trivial)).fix16 f2 (by decide) (fun q u=>by show tg i q≠tg 6 4;unfold tg;omega)⟩
 ·show(((idsU l 4).map SRep.new).map (·.id)).Nodup;rw[List.map_map];rw[show(idsU l 4).map ((·.id) ∘ SRep.new)=idsU l 4 from List.map_id'' (fun _=>rfl) _];exact List.Pairwise.filter _ List.nodup_range
theorem NewW.start {w w2 w4 w5:World} {rho:Nat→Rq} {gc lb bb mb:Nat} {A:Option Addr} {c:Nat} {l:List Int} (g:Below w.heap.size w w2) (k:w2.heap[gc]?=some (.cells #[.int .i64 0,.slice A 4 c] 31 (0,0))) (s:Mem w2 A c)
  (e:Below ((w2.alloc (.map #[] 0)).alloc (.map #[] 0)).heap.size ((w2.alloc (.map #[] 0)).alloc (.map #[] 0)) w4) (r:∀ o:Tags,(∀ x,((w2.alloc (.map #[] 0)).alloc (.map #[] 0)).heap.size≤x→x<w4.heap.size→o x=tg 5 0)→LaneAt w4 o (tg 5 0) lb bb mb [])
  (q:w5=w4.alloc (.cells #[.map (some w2.heap.size),.map (some (w2.heap.size+1)),.pointer (some ⟨lb,0,none⟩),.int .i64 0] 80)) :
  ∃ o,NewW w w5 o rho w4.heap.size gc w2.heap.size (w2.heap.size+1) lb bb mb (fun _=>0) A c l 0:=by
 subst q;obtain⟨a1,a2,z,j⟩:=hAp w2 (.map #[] 0) (.map #[] 0);have f:((w2.alloc (.map #[] 0)).alloc (.map #[] 0)).heap.size=w2.heap.size+2:=by simp
 have u:w2.heap.size+2≤w4.heap.size:=by rw[←f];exact e.size
 have d:=(Below.refl w4.heap.size w4).alloc (Nat.le_refl _) (.cells #[.map (some w2.heap.size),.map (some (w2.heap.size+1)),.pointer (some ⟨lb,0,none⟩),.int .i64 0] 80);have t:=heap_alloc_new w4 (.cells #[.map (some w2.heap.size),.map (some (w2.heap.size+1)),.pointer (some ⟨lb,0,none⟩),.int .i64 0] 80);have h:Below w2.heap.size w2 w4:=j.trans (e.mono j.size);have a:=h.trans (d.mono h.size);obtain⟨o,b⟩:=zN (fun x=>if x<w2.heap.size then 0 else if x=w2.heap.size then tg 6 3 else if x=w2.heap.size+1 then tg 6 4 else if x=w4.heap.size then tg 6 1 else tg 5 0:Tags);have t0:∀ x,x<w2.heap.size→o x=0:=fun x m=>by rw[b];exact if_pos m
 have t1:o w2.heap.size=tg 6 3:=by rw[b];simp
 have t2:o (w2.heap.size+1)=tg 6 4:=by rw[b];simp
 have t3:o w4.heap.size=tg 6 1:=by
  rw[b];show(if w4.heap.size<w2.heap.size then 0 else if w4.heap.size=w2.heap.size then tg 6 3 else if w4.heap.size=w2.heap.size+1 then tg 6 4 else if w4.heap.size=w4.heap.size then tg 6 1 else tg 5 0)=tg 6 1;rw[if_neg (by omega),if_neg (by omega),if_neg (by omega),if_pos rfl]
 have t4:∀ x,w2.heap.size+2≤x→x<w4.heap.size→o x=tg 5 0:=fun x v y=>by
  rw[b];show(if x<w2.heap.size then 0 else if x=w2.heap.size then tg 6 3 else if x=w2.heap.size+1 then tg 6 4 else if x=w4.heap.size then tg 6 1 else tg 5 0)=tg 5 0;rw[if_neg (by omega),if_neg (by omega),if_neg (by omega),if_neg (by omega)]
 have t5:∀ x i,i<4→o x / 16≠i+1:=fun x i hi=>by
  rw[b];show(if x<w2.heap.size then 0 else if x=w2.heap.size then tg 6 3 else if x=w2.heap.size+1 then tg 6 4 else if x=w4.heap.size then tg 6 1 else tg 5 0) / 16≠i+1;unfold tg;split
  ·omega
  ·split
   ·omega
   ·split
    ·omega
    ·split<;>omega
 clear b;have n:=(e.block _ (by rw[f];omega)).trans a1;have p:=(e.block _ (by rw[f];omega)).trans a2;have gl:=(zL k);refine⟨o,g.trans (a.mono g.size),fun x m=>t0 x (Nat.lt_of_lt_of_le m g.size),(a.block gc gl).trans k,s.keep a,⟨t,t3⟩,⟨MpK.empty ((d.block _ (by omega)).trans n),t1⟩,⟨MpK.empty ((d.block _ (by omega)).trans p),t2⟩,?_,(fun i hi=>by cases hi),fun x _ i _ hi=>t5 x i hi⟩;exact(r o (by rw[f];exact t4)).fix (P:=fun _=>True) (Fix.same (o:=o) d) trivial trivial
theorem hKx {rho:Nat→Rq} (A:Option Addr) (c:Nat) (BA:Option Addr) (bn bc:Nat) (l:List Int) (w:World) (hm:Mem w A c) (Hg:BadS w BA bn bc l) (Hb:l.contains 101=false) :
  Calls Tryz.prog 6 #[.agg #[.int .i64 0,.slice A 4 c],.int .i64 4,.int .i64 1,.slice BA bn bc] w fun e w'=>∃ b p o',e=.returned (.tuple #[.pointer (some ⟨b,0,none⟩),.int .i64 0])∧WorldAt w' o' rho b p (SW.init (idsU l 4))∧Below w.heap.size w w'∧∀ x,x<w.heap.size→o' x=0:=by
 have Hc:=(Below.refl w.heap.size w).alloc (Nat.le_refl _) (.cells #[.int .i64 0,.slice A 4 c] 31);have W:=zH Hc;have O:=zH (heap_alloc_new w (.cells #[.int .i64 0,.slice A 4 c] 31));have HM:=zH (hm.keep Hc);have Y:=zH Hg;have Hz:=right4 0 (by omega) A c _ HM.o;have Ha:=zH (show Calls Tryz.prog 19 #[.agg #[.int .i64 0,.slice A 4 c]] _ _ from Hz);have HJ:=zH Hb;clear Hc hm Hg Hz Hb;go_enter Tryz.func6,Tryz.ntmps6;go_upto_region 1 with fail;obtain⟨gc,Hx⟩:=zN (w.heap.size);rw[←Hx] at O ⊢;clear Hx;generalize w.alloc _=w1 at W O HM Ha ⊢;have c0:=zQ w1 gc 0 (.int .i64 0) O.o;have c1:=zQ w1 gc 1 (.slice A 4 c) O.o;go_wp2_with fail;refine Ha.o.mono ?_;rintro e w2 ⟨rfl,U⟩;have X:=zH (zB W.o U);have Z:=zH ((U.block gc (zL O.o)).trans O.o);have Ht:=zH (HM.o.keep U);clear c0 c1 U Ha W O HM;have c0:=zQ w2 gc 0 (.int .i64 0) Z.o;have hO:=@run_makeMap Tryz.prog;obtain⟨_,_,_,Hu⟩:=hAp w2 (.map #[] 0) (.map #[] 0);have Hr:=zH (hVg (Y.o.keep (zB X.o Hu)));clear Hu;go_wp2_with fail;refine Hr.o.mono ?_;rintro e w4 ⟨lb,bb,mb,rfl,Hw,Hy⟩;have C:=zH (fun w5=>NewW.start (w5:=w5) (rho:=rho) (l:=l) X.o Z.o Ht.o Hw Hy);clear Hw Hy Hr c0;go_upto_region 4 with fail;clear hO;have n:=C.o _ rfl;clear C X Z Ht;obtain⟨B,hB⟩:=zN (w4.heap.size);obtain⟨rm,Hl⟩:=zN (w2.heap.size);obtain⟨cm,Hi⟩:=zN (w2.heap.size+1);rw[←hB,←Hi,←Hl] at n;try simp only[←hB,←Hi]
 try simp only[←Hl]
 have C:=zH n;clear n hB Hl Hi;generalize w4.alloc _=w5 at C ⊢;go_wp2_with fail;go_loopw [11,44] (fun _ j wr=>∃ k:Nat,k≤4∧j=.int .i64 k∧zI (∃ ok rb,NewW w wr ok rho B gc rm cm lb bb mb rb A c l k)) (fun _ j _=>4 - (intOf j).toNat)
 case atStart=>
  obtain⟨ok,h⟩:=C.o;exact⟨0,by omega,rfl,zH ⟨ok,_,h⟩⟩
 case round=>
  obtain⟨k,hk,rfl,n⟩:=hrel;obtain⟨ok,rb,Hk⟩:=n.o;have a:=zH Hk;have y:=zH (Y.o.keep Hk.bel);clear n Hk C;by_cases hk4:k<4
  ·have q1:(k:Int)<4:=by omega
   have q0:(0:Int)≤(k:Int):=by omega
   have s:=zH (hPk (k:Int) y.o);go_wp2_with fail;refine s.o.mono ?_;rintro e wx ⟨rfl,rfl⟩;cases hcn:l.contains (k:Int) with
   |true=>
    have z:=zH (show ∃ ok rb,NewW w wx ok rho B gc rm cm lb bb mb rb A c l (k+1) from⟨ok,rb,a.o.skip hcn⟩);clear hcn s a y;go_wp2_with fail;exact⟨⟨k+1,by omega,by go_num,z⟩,by simp only[intOf];omega⟩
   |false=>
    have Hq:=zH hcn;clear hcn s y;go_wp2_with fail;obtain⟨cB,_,_,_⟩:=And.intro (zQ wx B 0 (.map (some rm)) a.o.blk.1) (And.intro trivial (And.intro trivial trivial));have H:wx.drew.cell? ⟨B,0,none⟩=some (.map (some rm))∧wx.drew.heap[gc]?=some (.cells #[.int .i64 0,.slice A 4 c] 31 (0,0)):=⟨cB,a.o.conf⟩;clear cB;refine wp_region_held_drew (S:=(fun V=>V.cell? ⟨B,0,none⟩=some (.map (some rm))∧V.heap[gc]?=some (.cells #[.int .i64 0,.slice A 4 c] 31 (0,0)))) (by kernel_rfl) H (fun m=>?_);change wpAnyH _ _ _ _ _ 12 (Array.replicate 12 false) _ _;clear H;have E:=zH (show Below wx.heap.size wx wx.drew from Below.drew (Below.refl wx.heap.size wx));have t:zI (wx.drew.heap.size=wx.heap.size):=zH rfl;generalize wx.drew=wd at m E t ⊢;refine zK 0 52 rfl rfl ?_;try dsimp only;try simp only[zA,zC,zD]
    refine zK 1 53 rfl rfl ?_;try dsimp only;try simp only[zA,zC,zD]
    refine zK 2 54 rfl rfl ?_;try dsimp only;try simp only[zA,zC,zD]
    (refine zT 3 55 rfl rfl (v:=?v55_52) (.inl ⟨by rfl,?y55_52⟩) ?_;case y55_52=>(intro w d;(try dsimp only at d);obtain⟨s2,-⟩:=d;go_simp;try with_reducible rfl));try dsimp only;try simp only[zA,zC,zD]
    refine zK 4 56 rfl rfl ?_;try dsimp only;try simp only[zA,zC,zD]
    refine zK 5 57 rfl rfl ?_;try dsimp only;try simp only[zA,zC,zD]
    (refine zT 6 58 rfl rfl (v:=?v58_52) (.inl ⟨by rfl,?y58_52⟩) ?_;case y58_52=>(intro w d;(try dsimp only at d);have s3:=zQ w gc 0 (.int .i64 0) d.2;have s4:=zQ w gc 1 (.slice A 4 c) d.2;clear d;go_simp;try with_reducible rfl));try dsimp only;try simp only[zA,zC,zD]
    refine wpAnyH_ready (rs:=[7]) (by kernel_rfl) (by simp) ?_;refine AllReadyH.cons rfl (fun K u=>?_) AllReadyH.nil;rw[if_pos (by rfl)];have N:=hX7 (rho:=rho) k hk4 ok A c wd (a.o.mem.keep E.o) (fun x hx=>a.o.free x (by rw[←t.o];exact hx) k (Nat.le_refl _) hk4);go_simp;go_at_call 22;refine N.mono ?_;rintro e w6 ⟨b1,z1,o6,rfl,M,L,Hf,I⟩;have f:Below wx.heap.size wx w6:=zB E.o I;have gl:=(zL a.o.conf);have F:w6.cell? ⟨B,0,none⟩=some (.map (some rm))∧w6.heap[gc]?=some (.cells #[.int .i64 0,.slice A 4 c] 31 (0,0)):=⟨zQ w6 B 0 (.map (some rm)) ((f.block B a.o.blk.lt).trans a.o.blk.1),(f.block gc gl).trans a.o.conf⟩;refine u.out _ _ F (fun _=>?_);try dsimp only
    clear u K m;refine zK 8 51 rfl rfl ?_;try dsimp only;try simp only[zA,zC,zD]
    refine zK 9 60 rfl rfl ?_;try dsimp only;try simp only[zA,zC,zD]
    refine zK 10 61 rfl rfl ?_;try dsimp only;try simp only[zA,zC,zD]
    obtain⟨w7,T,J,D⟩:=hAs hAh Tryz.underlying75 (a.o.rmap.1.fix (P:=fun _=>True) (Fix.same (o:=ok) f) trivial) (hEa (k:Int) (by omega)) (.pointer (some ⟨b1,0,none⟩)) (hJr (fun r hr=>by
     obtain⟨i,hi,rfl⟩:=List.mem_map.1 hr;have:=hGt hi;show((i:Nat):Int)≠(k:Int);omega))
    have g:=a.o.add hk4 Hq.o M (fun x hx=>L x (by rw[t.o];exact hx)) f J D;have G:w7.cell? ⟨B,0,none⟩=some (.map (some rm))∧w7.heap[gc]?=some (.cells #[.int .i64 0,.slice A 4 c] 31 (0,0)):=⟨zQ w7 B 0 (.map (some rm)) g.blk.1,g.conf⟩;refine wpAnyH_ready (rs:=[11]) (by kernel_rfl) (by simp) ?_;refine AllReadyH.cons rfl (fun K u=>?_) AllReadyH.nil;rw[if_pos (by rfl)];go_simp;refine u.out _ _ G (fun _=>?_);try dsimp only
    clear u K;refine wpAnyH_done (by kernel_rfl) ?_ _;have z:=zH (show ∃ ok rb,NewW w w7 ok rho B gc rm cm lb bb mb rb A c l (k+1) from⟨_,_,g⟩);clear T J D g G F M L Hf I f gl N E t a Hq;go_wp2_with fail;exact⟨⟨k+1,by omega,by go_num,z⟩,by simp only[intOf];omega⟩
  ·obtain rfl:k=4:=by omega
   clear hk4;go_wp2_with fail;go_loopw [12] (fun j wl=>j=.int .i64 1∧wr=wl∨j=.int .i64 2∧zI (∃ p o',WorldAt wl o' rho B p (SW.init (idsU l 4))∧Below w.heap.size w wl∧∀ x,x<w.heap.size→o' x=0)) (fun j _=>2 - (intOf j).toNat)
   case atStart=>exact .inl ⟨rfl,rfl⟩
   case round=>
    rcases hrel with⟨rfl,rfl⟩ | ⟨rfl,n⟩
    ·have R:=hPk 101 y.o;rw[HJ.o] at R;have s:=zH R;clear R;go_wp2_with fail;refine s.o.mono ?_;rintro e wx ⟨rfl,rfl⟩;clear s y;go_wp2_with fail;obtain⟨cB,_,_,_⟩:=And.intro (zQ wx B 1 (.map (some cm)) a.o.blk.1) (And.intro trivial (And.intro trivial trivial));have H:wx.drew.cell? ⟨B,1,none⟩=some (.map (some cm))∧wx.drew.heap[gc]?=some (.cells #[.int .i64 0,.slice A 4 c] 31 (0,0)):=⟨cB,a.o.conf⟩;clear cB;refine wp_region_held_drew (S:=(fun V=>V.cell? ⟨B,1,none⟩=some (.map (some cm))∧V.heap[gc]?=some (.cells #[.int .i64 0,.slice A 4 c] 31 (0,0)))) (by kernel_rfl) H (fun m=>?_);change wpAnyH _ _ _ _ _ 12 (Array.replicate 12 false) _ _;clear H;have E:=zH (show Below wx.heap.size wx wx.drew from Below.drew (Below.refl wx.heap.size wx));have t:zI (wx.drew.heap.size=wx.heap.size):=zH rfl;generalize wx.drew=wd at m E t ⊢;refine zK 0 74 rfl rfl ?_;try dsimp only;try simp only[zA,zC,zD]
     refine zK 1 75 rfl rfl ?_;try dsimp only;try simp only[zA,zC,zD]
     refine zK 2 76 rfl rfl ?_;try dsimp only;try simp only[zA,zC,zD]
     (refine zT 3 77 rfl rfl (v:=?v77_74) (.inl ⟨by rfl,?y77_74⟩) ?_;case y77_74=>(intro w d;(try dsimp only at d);obtain⟨s2,-⟩:=d;go_simp;try with_reducible rfl));try dsimp only;try simp only[zA,zC,zD]
     refine zK 4 78 rfl rfl ?_;try dsimp only;try simp only[zA,zC,zD]
     refine zK 5 79 rfl rfl ?_;try dsimp only;try simp only[zA,zC,zD]
     (refine zT 6 80 rfl rfl (v:=?v80_74) (.inl ⟨by rfl,?y80_74⟩) ?_;case y80_74=>(intro w d;(try dsimp only at d);have s3:=zQ w gc 0 (.int .i64 0) d.2;have s4:=zQ w gc 1 (.slice A 4 c) d.2;clear d;go_simp;try with_reducible rfl));try dsimp only;try simp only[zA,zC,zD]
     refine wpAnyH_ready (rs:=[7]) (by kernel_rfl) (by simp) ?_;refine AllReadyH.cons rfl (fun K u=>?_) AllReadyH.nil;rw[if_pos (by rfl)];have N:=hW8 (rho:=rho) ok A c wd (a.o.mem.keep E.o);go_simp;go_at_call 23;refine N.mono ?_;rintro e w6 ⟨b1,z1,o6,rfl,M,L,Hf,I⟩;have f:Below wx.heap.size wx w6:=zB E.o I;have gl:=(zL a.o.conf);have Hh:=(f.block B a.o.blk.lt).trans a.o.blk.1;have Q:=(f.block gc gl).trans a.o.conf;have F:w6.cell? ⟨B,1,none⟩=some (.map (some cm))∧w6.heap[gc]?=some (.cells #[.int .i64 0,.slice A 4 c] 31 (0,0)):=⟨zQ w6 B 1 (.map (some cm)) Hh,Q⟩;refine u.out _ _ F (fun _=>?_);try dsimp only
     clear u K m;refine zK 8 73 rfl rfl ?_;try dsimp only;try simp only[zA,zC,zD]
     refine zK 9 82 rfl rfl ?_;try dsimp only;try simp only[zA,zC,zD]
     refine zK 10 83 rfl rfl ?_;try dsimp only;try simp only[zA,zC,zD]
     have Hj:=a.o.cmap.1.fix (P:=fun _=>True) (Fix.same (o:=ok) f) trivial;obtain⟨w7,T,J,D⟩:=hAs hAh Tryz.underlying76 Hj (hEa 1 (by omega)) (.pointer (some ⟨b1,0,none⟩)) (fun q hq=>by cases hq);have g:=a.o.done M (fun x hx=>L x (by rw[t.o];exact hx)) f J D;have G:w7.cell? ⟨B,1,none⟩=some (.map (some cm))∧w7.heap[gc]?=some (.cells #[.int .i64 0,.slice A 4 c] 31 (0,0)):=⟨g.1.c.2.1,hCc Q Hj D⟩;refine wpAnyH_ready (rs:=[11]) (by kernel_rfl) (by simp) ?_;refine AllReadyH.cons rfl (fun K u=>?_) AllReadyH.nil;rw[if_pos (by rfl)];go_simp;refine u.out _ _ G (fun _=>?_);try dsimp only
     clear u K;refine wpAnyH_done (by kernel_rfl) ?_ _;have z:=zH (show ∃ p o',WorldAt w7 o' rho B p (SW.init (idsU l 4))∧Below w.heap.size w w7∧∀ x,x<w.heap.size→o' x=0 from⟨_,_,g.1,g.2.1,g.2.2⟩);clear T J D g G F M L Hf I f gl Hh Q Hj N E t a;go_wp2_with fail
     go_roundw
     case rel=>first
      |exact .inr ⟨by go_num,z⟩
      |exact⟨_,_,_,_,_,_,_,_,_,_,_,_,_,_,_,_,_,_,_,_,_,_,.inr ⟨rfl,z⟩,rfl⟩
     case measure=>simp[intOf]
    ·have HF:=n;clear n a y;go_wp2_with fail;obtain⟨p,o',h1,h2,h3⟩:=HF.o;go_ret2;exact⟨B,p,o',rfl,h1,h2,h3⟩
end Go.Proofs.YtlibpcllceepkaaGreat
