/- Joined texts of the claim. No condition. -/
import Derived.Test.YtlibpcllceepkaaGreatB22
import Derived.Test.YtlibpcllceepkaaGreatB23
import Derived.Test.YtlibpcllceepkaaGreatB26
import Derived.Test.YtlibpcllceepkaaGreatB35
import Derived.Test.YtlibpcllceepkaaGreatB25
namespace Go.Proofs.YtlibpcllceepkaaGreat
open Go.RowKit
set_option maxRecDepth 100000
set_option linter.unusedVariables false
set_option linter.unusedSimpArgs false
set_option maxHeartbeats 16000000
def PkL (w:World) (b n:Nat):Prop:=∃ k,k≤n∧PkN w b k
theorem PkL.keep {w w':World} {b n:Nat} (h:PkL w b n) (d:Below w.heap.size w w'):PkL w' b n:=by
 obtain⟨k,a,c⟩:=h;exact⟨k,a,c.keep d⟩
theorem PkL.lt {w:World} {b n:Nat} (h:PkL w b n):b<w.heap.size:=by
 obtain⟨k,_,a⟩:=h;exact a.lt
theorem PkL.le {w:World} {b n m:Nat} (h:PkL w b n) (d:n≤m):PkL w b m:=by
 obtain⟨k,a,c⟩:=h;exact⟨k,Nat.le_trans a d,c⟩
structure Wst (w w1:World) (b n:Nat) (W:World):Prop where
 pk:PkL W b n
 bel:Below b w W
 kx:KeepX w1 W b
 kw:KeepX w W b
theorem Wst.step {w w1 W W':World} {b n n':Nat} (h:Wst w w1 b n W) (d:PkL W' b n') (c:Below b W W') (a:KeepX W W' b):Wst w w1 b n' W':=
 ⟨d,h.bel.trans c,h.kx.trans a,h.kw.trans a⟩
theorem Wst.quiet {w w1 W W':World} {b n:Nat} (h:Wst w w1 b n W) (a:Below W.heap.size W W'):Wst w w1 b n W':=
 h.step (h.pk.keep a) (a.mono (Nat.le_of_lt h.pk.lt)) (KeepX.of_below a)
theorem Wst.cell {w w1 W:World} {b n:Nat} (h:Wst w w1 b n W) {X:Nat} {cs:Array Value} {T:TypeId} (c:w1.heap[X]?=some (.cells cs T (0,0))) (a:T≠5) (d:X≠b) (k:Nat):W.cell? ⟨X,k,none⟩=cs[k]?:=
 zR W X k _ _ _ (h.kx _ _ _ _ c a d)
theorem Wst.le {w w1 W:World} {b n m:Nat} (h:Wst w w1 b n W) (a:n≤m):Wst w w1 b m W:=⟨h.pk.le a,h.bel,h.kx,h.kw⟩
theorem KeepX.refl (w:World) (b:Nat):KeepX w w b:=fun _ _ _ _ h _ _=>h
theorem Wst.over {w w1 w2 W:World} {b n n2:Nat} (h:Wst w w1 b n w2) (k:Wst w2 w2 b n2 W):Wst w w1 b n2 W:=⟨k.pk,h.bel.trans k.bel,h.kx.trans k.kx,h.kw.trans k.kw⟩
theorem Wst.here {w w1 W:World} {b n:Nat} (h:Wst w w1 b n W):Wst W W b n W:=⟨h.pk,Below.refl _ _,KeepX.refl _ _,KeepX.refl _ _⟩
section calls
variable {w w1 W:World} {b n:Nat}
theorem hBx (x:Nat) (c:x<256) (f:n+1≤65536) (h:Wst w w1 b n W) :
  Calls Tryz.prog 87 #[.pointer (some ⟨b,0,none⟩),.int .i64 x] W fun e W'=>e=.returned (.tuple #[])∧Wst w w1 b (n+1) W':=by
 obtain⟨k,d,a⟩:=h.pk;exact(hHz b k x c (by omega) W a).mono fun e W' ⟨e1,e2,e3,e4⟩=>⟨e1,h.step ⟨k+1,by omega,e2⟩ e3 e4⟩
theorem hOc (x:Nat) (c:x<65536) (f:n+2≤65536) (h:Wst w w1 b n W) :
  Calls Tryz.prog 88 #[.pointer (some ⟨b,0,none⟩),.int .i64 x] W fun e W'=>e=.returned (.tuple #[])∧Wst w w1 b (n+2) W':=by
 obtain⟨k,d,a⟩:=h.pk;exact(hVz b k x c (by omega) W a).mono fun e W' ⟨e1,e2,e3,e4⟩=>⟨e1,h.step ⟨k+2,by omega,e2⟩ e3 e4⟩
theorem hIh (s:ByteArray) (m:Nat) (g:s.size≤m) (d:m≤65535) (f:n+2+m≤65536) (h:Wst w w1 b n W) :
  Calls Tryz.prog 91 #[.pointer (some ⟨b,0,none⟩),.string s] W fun e W'=>e=.returned (.tuple #[])∧Wst w w1 b (n+2+m) W':=by
 obtain⟨k,c,a⟩:=h.pk;exact(hH0 b k s (by omega) (by omega) W a).mono fun e W' ⟨e1,e2,e3,e4⟩=>⟨e1,h.step ⟨k+2+s.size,by omega,e2⟩ e3 e4⟩
theorem hYm (y:Nat) (c:y<256) (t:ByteArray) (m:Nat) (i:t.size≤m) (f:m≤65535) (g:n+3+m≤65536) (h:Wst w w1 b n W) :
  Calls Tryz.prog 121 #[.agg #[.pointer (some ⟨b,0,none⟩)],.agg #[.int .i64 y,.string t]] W fun e W'=>e=.returned (.tuple #[])∧Wst w w1 b (n+3+m) W':=by
 obtain⟨k,d,a⟩:=h.pk;exact(hUt b k y c t (by omega) (by omega) W a).mono fun e W' ⟨e1,e2,e3,e4⟩=>⟨e1,h.step ⟨k+3+t.size,by omega,e2⟩ e3 e4⟩
theorem hPj (a c k f:Int) (s:ByteArray) (re:Nat) (t:ByteArray) (d:∀ w,Calls Tryz.prog 109 #[.agg (six a c k s re f)] w fun e w'=>e=.returned (.tuple #[.string t,.int .i64 0])∧Below w.heap.size w w') (m:Nat) (p:t.size≤m) (l:m≤65535) (o:n+2+m≤65536) (h:Wst w w1 b n W) :
  Calls Tryz.prog 89 #[.agg #[.pointer (some ⟨b,0,none⟩)],.agg (six a c k s re f)] W fun e W'=>e=.returned (.tuple #[])∧Wst w w1 b (n+2+m) W':=by
 obtain⟨i,j,g⟩:=h.pk;exact(hZs a c k f s re t d b i (by omega) (by omega) W g).mono fun e W' ⟨e1,e2,e3,e4⟩=>⟨e1,h.step ⟨i+2+t.size,by omega,e2⟩ e3 e4⟩
theorem hOb (l:List St) (k:∀ s∈l,0≤s.1∧s.1<200∧s.2.size≤65535) (o:Tags) (A:Option Addr) (m c:Nat) (j:m≤16) (M:Nat) (q:sigN l≤M) (r:n+1+M≤65536) (w0:World) (a:Below w0.heap.size w0 W) (d:w0.heap.size≤b) (g:SlD encS w0 o A m c l) (h:Wst w w1 b n W) :
  Calls Tryz.prog 92 #[.agg #[.pointer (some ⟨b,0,none⟩)],.slice A m c] W fun e W'=>e=.returned (.tuple #[])∧Wst w w1 b (n+1+M) W':=by
 obtain⟨i,p,f⟩:=h.pk;exact(hYl l k o A m c b i j (by omega) w0 W a d g f).mono fun e W' ⟨e1,e2,e3,e4⟩=>⟨e1,h.step ⟨i+1+sigN l,by omega,e2⟩ e3 e4⟩
end calls
theorem hRn {w w1 W:World} {b n:Nat} (f v:Nat) (D:f<256) (M:v<256) (t:ByteArray) (m:Nat) (L:t.size≤m) (J:m≤65535) (K:n+6+m≤65536) (h:Wst w w1 b n W) :
  Calls Tryz.prog 93 #[.agg #[.pointer (some ⟨b,0,none⟩)],.agg #[.int .i64 f,.int .i64 v,.slice none 0 0,.int .i64 f,.string t]] W fun e W'=>e=.returned (.tuple #[])∧Wst w w1 b (n+6+m) W':=by
 refine Calls.mono (R:=fun e W'=>e=.returned (.tuple #[])∧Wst W W b (n+6+m) W') ?_ (fun e W' ⟨N,C⟩=>⟨N,h.step C.pk C.bel C.kx⟩);obtain⟨a1,a2,P,s⟩:=hAp W (.cells #[.pointer (some ⟨b,0,none⟩)] 200) (.cells #[.int .i64 f,.int .i64 v,.slice none 0 0,.int .i64 f,.string t] 208);have E:=fun W2 n0 W' (k:Wst W W2 b n0 W') hn0=>zH (hBx f D hn0 k);have F:=fun W2 n0 W' (k:Wst W W2 b n0 W') hn0=>zH (hBx v M hn0 k);have G:=fun W2 n0 W' (k:Wst W W2 b n0 W') hn0=>zH (hBx 0 (by omega) hn0 k);have H:=fun W2 n0 W' (k:Wst W W2 b n0 W') hn0=>zH (hYm f D t m L J hn0 k);have u:=zH (show Wst W ((W.alloc (.cells #[.pointer (some ⟨b,0,none⟩)] 200)).alloc (.cells #[.int .i64 f,.int .i64 v,.slice none 0 0,.int .i64 f,.string t] 208)) b n ((W.alloc (.cells #[.pointer (some ⟨b,0,none⟩)] 200)).alloc (.cells #[.int .i64 f,.int .i64 v,.slice none 0 0,.int .i64 f,.string t] 208)) from⟨h.pk.keep s,s.mono (Nat.le_of_lt h.pk.lt),KeepX.refl _ _,KeepX.of_below s⟩);have O:=h.pk.lt;have a:zI (W.heap.size≠b∧W.heap.size+1≠b):=zH ⟨by omega,by omega⟩;have d:=zH a1;have c:=zH a2;have l:=zH K;clear h s P D M L J K O;go_enter Tryz.func93,Tryz.ntmps93;go_upto_region 1 with fail;obtain⟨g,I⟩:=zN (W.heap.size);rw[←I] at d c a ⊢;clear I a1 a2;generalize World.alloc _ _=W2 at u d c ⊢;have c0:=(u.o.cell d.o (by decide) a.o.1 0).trans (show _=some (Value.pointer (some ⟨b,0,none⟩)) from rfl);have c1:=(u.o.cell c.o (by decide) a.o.2 0).trans (show _=some (Value.int .i64 f) from rfl);go_wp2_with fail;refine(E _ _ _ u.o (by have:=l.o;omega)).o.mono ?_;rintro e W3 ⟨rfl,x⟩;have p:=zH x;clear c0 c1 x u;have c0:=(p.o.cell d.o (by decide) a.o.1 0).trans (show _=some (Value.pointer (some ⟨b,0,none⟩)) from rfl);have c1:=(p.o.cell c.o (by decide) a.o.2 1).trans (show _=some (Value.int .i64 v) from rfl);go_wp2_with fail;refine(F _ _ _ p.o (by have:=l.o;omega)).o.mono ?_;rintro e W4 ⟨rfl,y⟩;have q:=zH y;clear c0 c1 y p;have c0:=(q.o.cell d.o (by decide) a.o.1 0).trans (show _=some (Value.pointer (some ⟨b,0,none⟩)) from rfl);have c1:=(q.o.cell c.o (by decide) a.o.2 2).trans (show _=some (Value.slice none 0 0) from rfl);go_wp2_with fail;refine(G _ _ _ q.o (by have:=l.o;omega)).o.mono ?_;rintro e W5 ⟨rfl,z⟩;have i:=zH z;clear c0 c1 z q;have c0:=(i.o.cell d.o (by decide) a.o.1 0).trans (show _=some (Value.pointer (some ⟨b,0,none⟩)) from rfl);have c2:=(i.o.cell c.o (by decide) a.o.2 2).trans (show _=some (Value.slice none 0 0) from rfl);have c3:=(i.o.cell c.o (by decide) a.o.2 3).trans (show _=some (Value.int .i64 f) from rfl);have c4:=(i.o.cell c.o (by decide) a.o.2 4).trans (show _=some (Value.string t) from rfl);go_wp2_with fail;go_loopw [25] (fun j wr=>j=.int .i64 0∧W5=wr) (fun _ _=>0)
 case atStart=>exact⟨rfl,rfl⟩
 case round=>
  obtain⟨rfl,rfl⟩:=hrel;go_wp2_with fail;refine(H _ _ _ i.o (by have:=l.o;omega)).o.mono ?_;rintro e W6 ⟨rfl,B⟩;have r:=zH B;clear c0 c2 c3 c4 B;go_wp2_with fail;go_end0;exact⟨rfl,r.o.pk.le (by omega),r.o.bel,r.o.kw,r.o.kw⟩
structure FM.Small (m:FM) (t:ByteArray):Prop where
 kind:1≤m.kind∧m.kind≤10
 e:m.e≤60
 v:m.v≤15
 s:m.s≤100
 req:∀ w,Calls Tryz.prog 109 #[.agg (six m.cl m.q.st m.q.kind m.q.key m.q.real 0)] w fun e w'=>e=.returned (.tuple #[.string t,.int .i64 0])∧Below w.heap.size w w'
 tsz:t.size≤100
 code:m.code≤8
 text:m.text.size≤500
 sigs:m.sigs.length≤4∧∀ s∈m.sigs,0≤s.1∧s.1<200∧s.2.size≤600
 chs:m.chs.length≤3∧∀ c∈m.chs,c.1<256∧c.2.1<256∧c.2.2.size≤100
 links:∀ bys,m.links=some bys→bys.length≤4∧∀ f∈bys,f<4
theorem hJa (l:List St) (M:Nat) (h:∀ s∈l,s.2.size≤M):sigN l≤l.length*(3+M):=by
 induction l with
 |nil=>simp[sigN]
 |cons s l ih=>
  have b:=h s (by simp);have c:=ih fun x a=>h x (by simp[a]);simp only[sigN,List.length_cons,Nat.succ_mul];omega
theorem hQ6 (c r:Nat):(resT c r).size≤100:=by rw[hC0];omega
theorem hOo (e:Nat):(confT e).size≤100:=by rw[hAv];omega
theorem hW5 (m:FM) (t:ByteArray) (T:m.Small t) (z:Sls) (o:Tags) (w:World) (ha:m.At w o z)
  (HF:∀ w',Below w.heap.size w w'→Calls Tryz.prog 85 #[.agg (m.cells z)] w' fun r w''=>r=.returned (.bool true)∧Below w'.heap.size w' w'') :
  Calls Tryz.prog 60 #[.agg (m.cells z)] w fun e w'=>(∃ s,e=.returned (.tuple #[.string s,.int .i64 0]))∧Below w.heap.size w w':=by
 obtain⟨A1,c1,A2,c2,A3,c3,A4,c4⟩:=z;obtain⟨nn,Hm⟩:=zN (if m.next then 4 else 0:Nat);obtain⟨ns,Hp⟩:=zN (m.sigs.length:Nat);obtain⟨nc,ab⟩:=zN (m.chs.length:Nat);obtain⟨nl,N⟩:=zN (if m.links.isSome then 1 else 0:Nat);have Hc:zI (nn≤4∧∀ k,k<nn→∃ nb no,A1=some ⟨nb,no,none⟩∧nb<w.heap.size∧w.cell? ⟨nb,no+k,none⟩=some (.int .i64 k)):=zH (by
  have h:=ha.next;by_cases hx:m.next=true
  ·rw[if_pos hx] at h Hm;obtain⟨⟨_,_,nb,no,h1,h2,h3⟩,_⟩:=h;exact⟨by omega,fun k hk=>⟨nb,no,h1,h2,h3 k (by omega)⟩⟩
  ·rw[if_neg hx] at Hm;exact⟨by omega,fun k hk=>by omega⟩)
 have aV:zI (ns≤4):=zH (by rw[Hp];exact T.sigs.1);have aW:zI (SlD encS w o A2 ns c2 m.sigs):=zH (by rw[Hp];exact ha.sigs);have Hz:zI (nc≤3∧∀ i,i<nc→∃ nb no,A3=some ⟨nb,no,none⟩∧nb<w.heap.size∧∃ (f v:Nat) (tx:ByteArray),f<256∧v<256∧tx.size≤100∧w.cell? ⟨nb,no+(i*5+0),none⟩=some (.int .i64 f)∧w.cell? ⟨nb,no+(i*5+1),none⟩=some (.int .i64 v)∧w.cell? ⟨nb,no+(i*5+2),none⟩=some (.slice none 0 0)∧w.cell? ⟨nb,no+(i*5+3),none⟩=some (.int .i64 f)∧w.cell? ⟨nb,no+(i*5+4),none⟩=some (.string tx)):=zH ⟨by rw[ab];exact T.chs.1,fun i hi=>by
  obtain⟨nb,no,h1,h2,_,h3⟩:=ha.chs.at 5 hCh (0,0,ByteArray.empty) (by omega);have aP:m.chs.getD i (0,0,ByteArray.empty)∈m.chs:=by
   rw[List.getD_eq_getElem?_getD,List.getElem?_eq_getElem (by omega)];exact List.getElem_mem _
  obtain⟨k1,k2,k3⟩:=T.chs.2 _ aP;have h4:=fun j u hj hu=>h3 i j u (by omega) hj hu;generalize m.chs.getD i (0,0,ByteArray.empty)=c at h4 k1 k2 k3;exact⟨nb,no,h1,h2,c.1,c.2.1,c.2.2,k1,k2,k3,h4 0 _ (by omega) rfl,h4 1 _ (by omega) rfl,h4 2 _ (by omega) rfl,h4 3 _ (by omega) rfl,h4 4 _ (by omega) rfl⟩⟩
 have HJ:zI (nl≤1∧(0<nl→∃ bys:List Nat,bys.length≤4∧(∀ f∈bys,f<4)∧LinkD w o A4 c4 bys)):=zH (by
  have h:=ha.links;have h':=T.links;cases hl:m.links with
  |none=>
   rw[hl] at N;exact⟨by rw[N];simp,fun h=>by rw[N] at h;simp at h⟩
  |some bys=>
   rw[hl] at N h;exact⟨by rw[N];simp,fun _=>⟨bys,(h' bys hl).1,(h' bys hl).2,h⟩⟩)
 obtain⟨M,hM⟩:=zN (m.cells ⟨A1,c1,A2,c2,A3,c3,A4,c4⟩);have ay:M.toList.length=17:=by rw[hM];rfl
 have y:zI (M[0]?=some (.int .i64 m.kind)∧M[1]?=some (.int .i64 m.e)∧M[2]?=some (.int .i64 m.v)∧M[3]?=some (.int .i64 m.s) ∧
  M[4]?=some (.int .i64 m.cl)∧M[5]?=some (.int .i64 m.q.st)∧M[6]?=some (.int .i64 m.q.kind)∧M[7]?=some (.string m.q.key)∧M[8]?=some (.float .f64 m.q.real)∧M[9]?=some (.int .i64 0) ∧
  M[10]?=some (.int .i64 m.code)∧M[11]?=some (.float .f64 m.real)∧M[12]?=some (.string m.text)∧M[13]?=some (.slice A1 nn c1)∧M[14]?=some (.slice A2 ns c2)∧M[15]?=some (.slice A3 nc c3)∧M[16]?=some (.slice A4 nl c4)):=
  zH (by rw[hM,Hm,Hp,ab,N];exact⟨rfl,rfl,rfl,rfl,rfl,rfl,rfl,rfl,rfl,rfl,rfl,rfl,rfl,rfl,rfl,rfl,rfl⟩)
 have F:=(Below.refl w.heap.size w).alloc (Nat.le_refl _) (.cells M 48);have hN:=heap_alloc_new w (.cells M 48);have Hy:=zH (HF _ F);rw[←hM] at Hy ⊢;have aw:zI ((Tryz.prog.info? 48).map (·.size)=some M.toList.length):=zH (by rw[ay];kernel_rfl);have aq:zI ((w.alloc (.cells M 48)).rangeAt w.heap.size 0 M.toList):=zH (fun j v hv=>by
  rw[zR _ _ _ _ _ _ hN,Nat.zero_add];simpa using hv)
 have HA:=zH ha;have U:=zH T;have am:=zH F;have HN:=zH hN;have z0:=(zR _ w.heap.size 0 _ _ _ hN).trans y.o.1;obtain⟨kd,aE⟩:=zN (m.kind);rw[←aE] at z0 y;have q0:(1:Int)≤(kd:Int):=by have:=T.kind;omega
 have q1:(kd:Int)≤10:=by have:=T.kind;omega
 have aT:zI (kd≤10):=zH (by have:=T.kind;omega);clear ha T F hN ay HF aE hM Hm Hp ab N;have ae:=Hc.o.1;have bq:(nn:Int)≤4:=by omega
 clear ae;go_enter Tryz.func60,Tryz.ntmps60;go_wp2_with (refine wpList_load_mid rfl 48 (.tmp 1) rfl w.heap.size 0 (by rfl) M.toList _ aq.o Tryz.underlying48 rfl aw.o ?_);refine Hy.o.mono ?_;rintro r w2 ⟨rfl,hU⟩;have Hw:=zH (zB am.o hU);have X:=zH ((hU.block _ (zL HN.o)).trans HN.o);clear z0 hU am HN aq Hy aw;have ar:=zH (hPs w2);go_wp2_with fail;refine ar.o.mono ?_;rintro r w3 ⟨rfl,ag,Y⟩;have S:=(Below.refl w3.heap.size w3).alloc (Nat.le_refl _) (.cells #[.pointer (some ⟨w2.heap.size,0,none⟩)] 200);have G:=zH (Hw.o.trans ((Y.trans (S.mono Y.size)).mono Hw.o.size));have l:=zH (((Y.trans (S.mono Y.size)).block _ (zL X.o)).trans X.o);have n:=zH (heap_alloc_new w3 (.cells #[.pointer (some ⟨w2.heap.size,0,none⟩)] 200));have HS:=zH (show Wst (w3.alloc (.cells #[.pointer (some ⟨w2.heap.size,0,none⟩)] 200)) (w3.alloc (.cells #[.pointer (some ⟨w2.heap.size,0,none⟩)] 200)) w2.heap.size 0 (w3.alloc (.cells #[.pointer (some ⟨w2.heap.size,0,none⟩)] 200)) from
  ⟨⟨0,Nat.le_refl _,⟨[],rfl,ag.keep S⟩⟩,Below.refl _ _,KeepX.refl _ _,KeepX.refl _ _⟩)
 have bd:=ag.lt;have b:zI (w.heap.size<w2.heap.size∧w.heap.size≠w2.heap.size∧w3.heap.size≠w2.heap.size):=zH ⟨(zL X.o),Nat.ne_of_lt (zL X.o),by omega⟩;clear ag Y S ar Hw X bd;go_upto_region 6 with fail;obtain⟨pb,ah⟩:=zN (w2.heap.size);obtain⟨wb,aJ⟩:=zN (w3.heap.size);obtain⟨g,hg⟩:=zN (w.heap.size);have E:zI (w.heap.size<pb):=zH (by rw[ah];exact b.o.1);rw[←ah] at G l n HS b ⊢;rw[←aJ] at n b ⊢;rw[←hg] at l b ⊢;clear ah aJ hg;generalize World.alloc _ _=W at G l n HS ⊢;have x0:=(HS.o.cell n.o (by decide) b.o.2.2 0).trans (show _=some (Value.pointer (some ⟨pb,0,none⟩)) from rfl);have x1:=(HS.o.cell l.o (by decide) b.o.2.1 0).trans y.o.1;have a:=zH (hBx kd (by have:=aT.o;omega) (by omega) HS.o);go_wp2_with fail;refine a.o.mono ?_;rintro e V1 ⟨rfl,d⟩;have Hf:=zH d;clear x0 x1 a d HS;have x0:=(Hf.o.cell n.o (by decide) b.o.2.2 0).trans (show _=some (Value.pointer (some ⟨pb,0,none⟩)) from rfl);have y1:=(Hf.o.cell l.o (by decide) b.o.2.1 1).trans y.o.2.1;have a:=zH (hOc m.e (by have:=U.o.e;omega) (by omega) Hf.o);go_wp2_with fail;refine a.o.mono ?_;rintro e V2 ⟨rfl,d⟩;have Hg:=zH d;clear x0 y1 a d Hf;have x0:=(Hg.o.cell n.o (by decide) b.o.2.2 0).trans (show _=some (Value.pointer (some ⟨pb,0,none⟩)) from rfl);have y2:=(Hg.o.cell l.o (by decide) b.o.2.1 2).trans y.o.2.2.1;have a:=zH (hBx m.v (by have:=U.o.v;omega) (by omega) Hg.o);go_wp2_with fail;refine a.o.mono ?_;rintro e V3 ⟨rfl,d⟩;have Hh:=zH d;clear x0 y2 a d Hg;have x0:=(Hh.o.cell n.o (by decide) b.o.2.2 0).trans (show _=some (Value.pointer (some ⟨pb,0,none⟩)) from rfl);have y3:=(Hh.o.cell l.o (by decide) b.o.2.1 3).trans y.o.2.2.2.1;have a:=zH (hOc m.s (by have:=U.o.s;omega) (by omega) Hh.o);go_wp2_with fail;refine a.o.mono ?_;rintro e V4 ⟨rfl,d⟩;have H:=zH d;clear x0 y3 a d Hh;have x0:=(H.o.cell n.o (by decide) b.o.2.2 0).trans (show _=some (Value.pointer (some ⟨pb,0,none⟩)) from rfl);have y4:=(H.o.cell l.o (by decide) b.o.2.1 4).trans y.o.2.2.2.2.1;have y5:=(H.o.cell l.o (by decide) b.o.2.1 5).trans y.o.2.2.2.2.2.1;have y6:=(H.o.cell l.o (by decide) b.o.2.1 6).trans y.o.2.2.2.2.2.2.1;have y7:=(H.o.cell l.o (by decide) b.o.2.1 7).trans y.o.2.2.2.2.2.2.2.1;have y8:=(H.o.cell l.o (by decide) b.o.2.1 8).trans y.o.2.2.2.2.2.2.2.2.1;have y9:=(H.o.cell l.o (by decide) b.o.2.1 9).trans y.o.2.2.2.2.2.2.2.2.2.1;have a:=zH (hPj m.cl m.q.st m.q.kind 0 m.q.key m.q.real t U.o.req 100 U.o.tsz (by omega) (by omega) H.o);go_wp2_with fail;refine a.o.mono ?_;rintro e V5 ⟨rfl,d⟩;have Hi:=zH d;clear x0 y4 y5 y6 y7 y8 y9 a d H;have y10:=(Hi.o.cell l.o (by decide) b.o.2.1 10).trans y.o.2.2.2.2.2.2.2.2.2.2.1;have y11:=(Hi.o.cell l.o (by decide) b.o.2.1 11).trans y.o.2.2.2.2.2.2.2.2.2.2.2.1;have au:=fun w=>zH (hIa m.code m.real U.o.code w);go_wp2_with fail;refine(au _).o.mono ?_;rintro e V6 ⟨rfl,hb⟩;have hI:=zH (Hi.o.quiet hb);clear y10 y11 au hb Hi;have x0:=(hI.o.cell n.o (by decide) b.o.2.2 0).trans (show _=some (Value.pointer (some ⟨pb,0,none⟩)) from rfl);have a:=zH (hIh (resT m.code m.real) 100 (hQ6 _ _) (by omega) (by omega) hI.o);go_wp2_with fail;refine a.o.mono ?_;rintro e V7 ⟨rfl,d⟩;have Hj:=zH d;clear x0 a d hI;have x0:=(Hj.o.cell n.o (by decide) b.o.2.2 0).trans (show _=some (Value.pointer (some ⟨pb,0,none⟩)) from rfl);have y12:=(Hj.o.cell l.o (by decide) b.o.2.1 12).trans y.o.2.2.2.2.2.2.2.2.2.2.2.2.1;have a:=zH (hIh m.text 500 U.o.text (by omega) (by omega) Hj.o);go_wp2_with fail;refine a.o.mono ?_;rintro e V8 ⟨rfl,d⟩;have Hk:=zH d;clear x0 y12 a d Hj;have x0:=(Hk.o.cell n.o (by decide) b.o.2.2 0).trans (show _=some (Value.pointer (some ⟨pb,0,none⟩)) from rfl);have y13:=(Hk.o.cell l.o (by decide) b.o.2.1 13).trans y.o.2.2.2.2.2.2.2.2.2.2.2.2.2.1;have a:=zH (hBx nn (by have:=Hc.o.1;omega) (by omega) Hk.o);go_wp2_with fail;refine a.o.mono ?_;rintro e V9 ⟨rfl,d⟩;have hJ:=zH d;clear x0 y13 a d Hk;have y13:=(hJ.o.cell l.o (by decide) b.o.2.1 13).trans y.o.2.2.2.2.2.2.2.2.2.2.2.2.2.1;go_wp2_with fail;clear y13;have ae:=Hc.o.1;go_loopw [80] (fun j wr=>∃ k:Nat,k≤nn∧j=.int .i64 k∧zI (Wst W W pb (713+k) wr)) (fun j _=>nn - (intOf j).toNat)
 case atStart=>exact⟨0,by omega,rfl,hJ⟩
 case round=>
  obtain⟨k,hk,rfl,x⟩:=hrel;have q2:(0:Int)≤(k:Int):=by omega
  by_cases hkn:k<nn
  ·have q3:(k:Int)<(nn:Int):=by omega
   obtain⟨nb,no,hA,C,aD⟩:=Hc.o.2 k hkn;subst hA;have v0:wr.cell? ⟨nb,no+k,none⟩=some (.int .i64 k):=((G.o.trans (x.o.bel.mono (Nat.le_of_lt E.o))).cell (p:=⟨nb,no+k,none⟩) C).trans aD;have x0:=(x.o.cell n.o (by decide) b.o.2.2 0).trans (show _=some (Value.pointer (some ⟨pb,0,none⟩)) from rfl);have a:=zH (hBx k (by omega) (by omega) x.o);clear C aD x;go_wp2_with fail;refine a.o.mono ?_;rintro e V ⟨rfl,d⟩;have I:=zH (show Wst W W pb (713+(k+1)) V from d);clear x0 v0 a d;go_wp2_with fail;exact⟨⟨k+1,by omega,by go_num,I⟩,by simp[intOf];omega⟩
  obtain rfl:k=nn:=by omega
  have q3:¬ (k:Int)<(k:Int):=by omega
  have K:=zH (x.o.le (show 713+k≤717 by omega));clear hkn x hJ;have x0:=(K.o.cell n.o (by decide) b.o.2.2 0).trans (show _=some (Value.pointer (some ⟨pb,0,none⟩)) from rfl);have y14:=(K.o.cell l.o (by decide) b.o.2.1 14).trans y.o.2.2.2.2.2.2.2.2.2.2.2.2.2.2.1;have P:=U.o.sigs;have a:=zH (hOb m.sigs (fun s d=>⟨(P.2 s d).1,(P.2 s d).2.1,by have:=(P.2 s d).2.2;omega⟩) o A2 ns c2 (by have:=aV.o;omega) 2412 (by have:=hJa m.sigs 600 (fun s d=>(P.2 s d).2.2);have:=P.1;omega) (by omega) w (G.o.trans (K.o.bel.mono (Nat.le_of_lt E.o))) (Nat.le_of_lt E.o) aW.o K.o);clear P q3;go_wp2_with fail;refine a.o.mono ?_;rintro e V51 ⟨rfl,d⟩;have Q:=zH d;clear x0 y14 a d K;have x0:=(Q.o.cell n.o (by decide) b.o.2.2 0).trans (show _=some (Value.pointer (some ⟨pb,0,none⟩)) from rfl);have y15:=(Q.o.cell l.o (by decide) b.o.2.1 15).trans y.o.2.2.2.2.2.2.2.2.2.2.2.2.2.2.2.1;have a:=zH (hBx nc (by have:=Hz.o.1;omega) (by omega) Q.o);go_wp2_with fail;refine a.o.mono ?_;rintro e V52 ⟨rfl,d⟩;have Z:=zH d;clear x0 y15 a d Q;have y15:=(Z.o.cell l.o (by decide) b.o.2.1 15).trans y.o.2.2.2.2.2.2.2.2.2.2.2.2.2.2.2.1;go_wp2_with fail;clear y15;have bi:=Hz.o.1;go_loopw [102] (fun j wr=>∃ i:Nat,i≤nc∧j=.int .i64 i∧zI (Wst W W pb (3131+106*i) wr)) (fun j _=>nc - (intOf j).toNat)
  case atStart=>exact⟨0,by omega,rfl,Z⟩
  case round=>
   obtain⟨i,hi,rfl,x⟩:=hrel;have q2:(0:Int)≤(i:Int):=by omega
   by_cases hin:i<nc
   ·have q3:(i:Int)<(nc:Int):=by omega
    obtain⟨nb,no,hA,C,f,v,tx,hf,hv,aI,e0,e1,e2,e3,e4⟩:=Hz.o.2 i hin;subst hA;have D:Below w.heap.size w wr:=G.o.trans (x.o.bel.mono (Nat.le_of_lt E.o));have v0:wr.cell? ⟨nb,no+i*5,none⟩=_:=(D.cell (p:=⟨nb,no+(i*5+0),none⟩) C).trans e0;have v1:wr.cell? ⟨nb,no+i*5+1,none⟩=_:=(D.cell (p:=⟨nb,no+(i*5+1),none⟩) C).trans e1;have v2:wr.cell? ⟨nb,no+i*5+2,none⟩=_:=(D.cell (p:=⟨nb,no+(i*5+2),none⟩) C).trans e2;have v3:wr.cell? ⟨nb,no+i*5+3,none⟩=_:=(D.cell (p:=⟨nb,no+(i*5+3),none⟩) C).trans e3;have v4:wr.cell? ⟨nb,no+i*5+4,none⟩=_:=(D.cell (p:=⟨nb,no+(i*5+4),none⟩) C).trans e4;have F:=(Below.refl wr.heap.size wr).alloc (Nat.le_refl _) (.cells #[.int .i64 f,.int .i64 v,.slice none 0 0,.int .i64 f,.string tx] 208);have J:=heap_alloc_new wr (.cells #[.int .i64 f,.int .i64 v,.slice none 0 0,.int .i64 f,.string tx] 208);have O:=zH (x.o.quiet F);have y0:=(zR _ wr.heap.size 0 _ _ _ J).trans (show _=some (Value.int .i64 f) from rfl);have y1:=(zR _ wr.heap.size 1 _ _ _ J).trans (show _=some (Value.int .i64 v) from rfl);have y2:=(zR _ wr.heap.size 2 _ _ _ J).trans (show _=some (Value.slice none 0 0) from rfl);have y3:=(zR _ wr.heap.size 3 _ _ _ J).trans (show _=some (Value.int .i64 f) from rfl);have y4:=(zR _ wr.heap.size 4 _ _ _ J).trans (show _=some (Value.string tx) from rfl);have x0:=(O.o.cell n.o (by decide) b.o.2.2 0).trans (show _=some (Value.pointer (some ⟨pb,0,none⟩)) from rfl);have a:=zH (hRn f v hf hv tx 100 aI (by omega) (by omega) O.o);clear C e0 e1 e2 e3 e4 x D F J hf hv aI;go_wp2_with fail;refine a.o.mono ?_;rintro e V ⟨rfl,d⟩;have I:=zH (show Wst W W pb (3131+106*(i+1)) V from d.le (by omega));clear x0 y0 y1 y2 y3 y4 v0 v1 v2 v3 v4 a d O;go_wp2_with fail;exact⟨⟨i+1,by omega,by go_num,I⟩,by simp[intOf];omega⟩
   obtain rfl:i=nc:=by omega
   have q3:¬ (i:Int)<(i:Int):=by omega
   have R:=zH (x.o.le (show 3131+106*i≤3449 by omega));clear hin x Z;have x0:=(R.o.cell n.o (by decide) b.o.2.2 0).trans (show _=some (Value.pointer (some ⟨pb,0,none⟩)) from rfl);have y16:=(R.o.cell l.o (by decide) b.o.2.1 16).trans y.o.2.2.2.2.2.2.2.2.2.2.2.2.2.2.2.2;have a:=zH (hBx nl (by have:=HJ.o.1;omega) (by omega) R.o);go_wp2_with fail;refine a.o.mono ?_;rintro e V61 ⟨rfl,d⟩;have Ha:=zH d;clear x0 y16 a d R;have y16:=(Ha.o.cell l.o (by decide) b.o.2.1 16).trans y.o.2.2.2.2.2.2.2.2.2.2.2.2.2.2.2.2;go_wp2_with fail;clear y16;have bj:=HJ.o.1;go_loopw [119] (fun j wr=>∃ h:Nat,h≤nl∧j=.int .i64 h∧zI (Wst W W pb (3450+515*h) wr)) (fun j _=>nl - (intOf j).toNat)
   case atStart=>exact⟨0,by omega,rfl,Ha⟩
   case round=>
    obtain⟨h,hh,rfl,x⟩:=hrel;have q4:(0:Int)≤(h:Int):=by omega
    by_cases hhn:h<nl
    ·have q5:(h:Int)<(nl:Int):=by omega
     obtain⟨bys,aB,az,ba⟩:=HJ.o.2 (by omega);obtain rfl:h=0:=by omega
     obtain⟨bo,bp,nb,no,A,c,B,bn,bc,hA,C,_,e0,e1,e2,aF,aH,bg⟩:=ba;subst hA;have D:Below w.heap.size w wr:=G.o.trans (x.o.bel.mono (Nat.le_of_lt E.o));have v0:=(D.cell (p:=⟨nb,no,none⟩) C).trans e0;have v1:=(D.cell (p:=⟨nb,no+1,none⟩) C).trans e1;have v2:=(D.cell (p:=⟨nb,no+2,none⟩) C).trans e2;have F:=(Below.refl wr.heap.size wr).alloc (Nat.le_refl _) (.cells #[.int .i64 1,.slice A 4 c,.slice B bn bc] 120);have J:=heap_alloc_new wr (.cells #[.int .i64 1,.slice A 4 c,.slice B bn bc] 120);have HC:=zH J;have O:=zH (x.o.quiet F);have an:=zH (D.trans (F.mono D.size));have y0:=(zR _ wr.heap.size 0 _ _ _ J).trans (show _=some (Value.int .i64 1) from rfl);have y1:=(zR _ wr.heap.size 1 _ _ _ J).trans (show _=some (Value.slice A 4 c) from rfl);have y2:=(zR _ wr.heap.size 2 _ _ _ J).trans (show _=some (Value.slice B bn bc) from rfl);have ap:=zH (hF5 1 (by omega) A c _ (aF.1.keep an.o));have av:=zH aH;have Hx:=zH (And.intro aB az);have aQ:=x.o.pk.lt;clear C e0 e1 e2 x D F J aF aH bg az aB;go_wp2_with fail;refine ap.o.mono ?_;rintro e V ⟨rfl,hb⟩;have I:=zH (O.o.quiet hb);have ao:=zH ((hb.block _ (zL HC.o)).trans HC.o);have bm:=zH (G.o.trans (I.o.bel.mono (Nat.le_of_lt E.o)));have aU:zI (wr.heap.size≠pb):=zH (by have:=aQ;omega);clear y0 y1 y2 v0 v1 v2 O an ap HC hb;have x0:=(I.o.cell n.o (by decide) b.o.2.2 0).trans (show _=some (Value.pointer (some ⟨pb,0,none⟩)) from rfl);have a:=zH (hIh (confT 1) 100 (hOo 1) (by omega) (by omega) I.o.here);go_wp2_with fail;refine a.o.mono ?_;rintro e V2 ⟨rfl,d⟩;have ax:=d.kx _ _ _ _ ao.o (by decide) aU.o;have Hl:=zH (I.o.over d);clear x0 a d I ao;have x0:=(Hl.o.cell n.o (by decide) b.o.2.2 0).trans (show _=some (Value.pointer (some ⟨pb,0,none⟩)) from rfl);have y2:=(zR _ wr.heap.size 2 _ _ _ ax).trans (show _=some (Value.slice B bn bc) from rfl);have aZ:bn=bys.length:=by have h:=av.o.1;unfold sgl at h;rw[List.length_map] at h;exact h.symm
     have a:=zH (hOb (sgl bys (confT 1)) (fun s d=>by
      obtain⟨f,hf,rfl⟩:=List.mem_map.1 d;have:=Hx.o.2 f hf;have:=hAv 1;dsimp only;omega) o B bn bc (by have:=Hx.o.1;omega) 412 (by
      have h:=hJa (sgl bys (confT 1)) 8 (fun s d=>by
       obtain⟨f,hf,rfl⟩:=List.mem_map.1 d;exact Nat.le_of_eq (hAv 1))
      have:=Hx.o.1;unfold sgl at h ⊢;rw[List.length_map] at h;omega) (by omega) w (G.o.trans (Hl.o.bel.mono (Nat.le_of_lt E.o))) (Nat.le_of_lt E.o) av.o Hl.o)
     clear ax aZ;go_wp2_with fail;refine a.o.mono ?_;rintro e V3 ⟨rfl,d⟩;have aX:=zH (show Wst W W pb (3450+515*1) V3 from d.le (by omega));clear x0 y2 a d Hl;go_wp2_with fail;exact⟨⟨1,by omega,rfl,aX⟩,by simp[intOf];omega⟩
    obtain rfl:h=nl:=by omega
    have q6:¬ (h:Int)<(h:Int):=by omega
    have Hb:=zH (x.o.le (show 3450+515*h≤3965 by omega));clear hhn x Ha;have x0:=(Hb.o.cell n.o (by decide) b.o.2.2 0).trans (show _=some (Value.pointer (some ⟨pb,0,none⟩)) from rfl);obtain⟨u,_,L,_,aG⟩:=Hb.o.pk;have aR:=zH (hMz pb L _ aG);clear aG;go_wp2_with fail;refine aR.o.mono ?_;rintro e V ⟨rfl,rfl⟩;clear x0;go_wp2_with fail;go_ret2;exact⟨⟨_,rfl⟩,G.o.trans (Hb.o.bel.mono (Nat.le_of_lt E.o))⟩
theorem hIu {rho:Nat→Rq} (g:ROk rho) (e d:Nat) (b:d≤8):(ledT rho e d).size≤400:=by
 have h:(ledT rho e d).size=(ledL rho e d).length:=hA3 _;rw[h];unfold ledL;rw[List.length_append,List.length_append,hDa,hD9];have a:=hDs (hist rho d).1 (sortK (hist rho d).1) (fun k c=>by
  obtain⟨p,f,rfl⟩:=hDt c;exact((hCb g d b).1 p f).2.2)
 rw[hA4] at a;have i:=hCp rho d;omega
theorem hHk (s:Nat) (t:ByteArray):(stateT s t).size=5+t.size:=by
 unfold stateT;rw[ByteArray.size_append,hA3];simp[headL,beL,be4]
theorem hQx (e v s:Nat) (q:Rq):(prepT e v s q).size=13+q.t.size:=by
 unfold prepT;rw[ByteArray.size_append,hA3];simp[headL,beL,be4]
theorem hLw (e v f:Nat):(chT e v f).size=6:=by
 unfold chT;rw[hA3];simp[beL]
theorem Rq.Ok.tsz {q:Rq} (h:q.Ok):q.t.size≤34:=hKo q h
theorem hEd:∀ w,Calls Tryz.prog 109 #[.agg (six 0 0 0 ⟨#[]⟩ 0 0)] w fun e w'=>e=.returned (.tuple #[.string ⟨#[0]⟩,.int .i64 0])∧Below w.heap.size w w':=hUk
theorem hEe (q:Rq) (h:q.Ok):∀ w,Calls Tryz.prog 109 #[.agg (six 1 q.st q.kind q.key q.real 0)] w fun e w'=>e=.returned (.tuple #[.string q.t,.int .i64 0])∧Below w.heap.size w w':=hDk q h
theorem hNv {rho:Nat→Rq} (m:ROk rho) {x:SMsg} (h:x.ok=true):∃ t,(x.fm rho).Small t:=by
 obtain⟨kd,e,v,n,bys⟩:=x;have y:=hD4 h;unfold SMsg.ok at h;rcases(y:kd=1∨kd=2∨kd=3∨kd=4∨kd=5∨kd=6∨kd=7∨kd=8∨kd=9∨kd=10) with rfl | rfl | rfl | rfl | rfl | rfl | rfl | rfl | rfl | rfl<;>simp only[Bool.and_eq_true,decide_eq_true_eq,beq_iff_eq,List.isEmpty_iff] at h
 ·obtain⟨⟨⟨⟨k,l⟩,i⟩,j⟩,_⟩:=h;have d:=(m n i j).1;have:=d.tsz;refine⟨(rho n).t,⟨⟨Nat.le_of_ble_eq_true rfl,Nat.le_of_ble_eq_true rfl⟩,show e≤60 by omega,Nat.zero_le _,Nat.zero_le _,hEe _ d,by omega,Nat.zero_le _,Nat.zero_le _,⟨Nat.le_of_ble_eq_true rfl,?_⟩,⟨Nat.zero_le _,by show ∀ c∈([]:List (Nat×Nat×ByteArray)),_;simp⟩,by intro b a;cases a⟩⟩;show ∀ s∈([_]:List St),_;simp;omega
 ·obtain⟨⟨⟨⟨k,l⟩,i⟩,j⟩,_⟩:=h;have d:=(m n (by omega) (by omega)).1;have:=d.tsz;refine⟨(rho n).t,⟨⟨Nat.le_of_ble_eq_true rfl,Nat.le_of_ble_eq_true rfl⟩,show e≤60 by omega,show v≤15 by omega,show n≤100 by omega,hEe _ d,by omega,Nat.zero_le _,Nat.zero_le _,⟨Nat.le_of_ble_eq_true rfl,?_⟩,⟨Nat.zero_le _,by show ∀ c∈([]:List (Nat×Nat×ByteArray)),_;simp⟩,by intro b a;cases a⟩⟩;show ∀ s∈([_]:List St),_;simp;omega
 ·obtain⟨⟨⟨⟨⟨k,l⟩,i⟩,j⟩,o⟩,g⟩:=h;obtain⟨f,rfl⟩:=List.length_eq_one_iff.1 o;have p:=(hA6 _ g).1 f (by simp);have d:=(m n (by omega) (by omega)).1;have:=d.tsz;have:=hQx e v n (rho n);refine⟨(rho n).t,⟨⟨Nat.le_of_ble_eq_true rfl,Nat.le_of_ble_eq_true rfl⟩,show e≤60 by omega,show v≤15 by omega,show n≤100 by omega,hEe _ d,by omega,Nat.zero_le _,Nat.zero_le _,⟨Nat.le_of_ble_eq_true rfl,?_⟩,⟨Nat.zero_le _,by show ∀ c∈([]:List (Nat×Nat×ByteArray)),_;simp⟩,by intro b a;cases a⟩⟩;show ∀ s∈([_]:List St),_;simp;omega
 ·obtain⟨⟨⟨⟨k,l⟩,i⟩,j⟩,_⟩:=h;have d:=(m n (by omega) (by omega)).1;have:=d.tsz;refine⟨(rho n).t,⟨⟨Nat.le_of_ble_eq_true rfl,Nat.le_of_ble_eq_true rfl⟩,show e≤60 by omega,show v≤15 by omega,show n≤100 by omega,hEe _ d,by omega,Nat.zero_le _,Nat.zero_le _,⟨Nat.zero_le _,by show ∀ s∈([]:List St),_;simp⟩,⟨Nat.zero_le _,by show ∀ c∈([]:List (Nat×Nat×ByteArray)),_;simp⟩,by intro b a;cases a⟩⟩
 ·obtain⟨⟨⟨⟨k,l⟩,i⟩,o⟩,g⟩:=h;obtain⟨f,rfl⟩:=List.length_eq_one_iff.1 o;have p:=(hA6 _ g).1 f (by simp);have r:=hIu m (e+1) n (by omega);have:=hHk n (ledT rho (e+1) n);have:=hAv (e+1);refine⟨⟨#[0]⟩,⟨⟨Nat.le_of_ble_eq_true rfl,Nat.le_of_ble_eq_true rfl⟩,show e≤60 by omega,Nat.zero_le _,show n≤100 by omega,hEd,by decide,Nat.zero_le _,show(ledT rho (e+1) n).size≤500 by omega,⟨Nat.le_of_ble_eq_true rfl,?_⟩,⟨Nat.zero_le _,by show ∀ c∈([]:List (Nat×Nat×ByteArray)),_;simp⟩,by intro b a;cases a⟩⟩;show ∀ s∈([_,_]:List St),_;simp;omega
 ·obtain⟨⟨⟨⟨⟨k,l⟩,i⟩,j⟩,o⟩,g⟩:=h;obtain⟨q,w⟩:=hA6 _ g;refine⟨⟨#[0]⟩,⟨⟨Nat.le_of_ble_eq_true rfl,Nat.le_of_ble_eq_true rfl⟩,show e≤60 by omega,show v≤15 by omega,Nat.zero_le _,hEd,by decide,Nat.zero_le _,Nat.zero_le _,⟨Nat.zero_le _,by show ∀ s∈([]:List St),_;simp⟩,⟨by show(bys.map _).length≤3;rw[List.length_map];omega,?_⟩,by intro b a;cases a⟩⟩;intro c hc;obtain⟨f,p,rfl⟩:=List.mem_map.1 (show c∈bys.map _ from hc);have:=q f p;exact⟨by dsimp only;omega,by dsimp only;omega,by dsimp only;rw[hLw];omega⟩
 ·obtain⟨⟨⟨⟨⟨k,l⟩,i⟩,j⟩,o⟩,g⟩:=h;obtain⟨q,w⟩:=hA6 _ g;refine⟨⟨#[0]⟩,⟨⟨Nat.le_of_ble_eq_true rfl,Nat.le_of_ble_eq_true rfl⟩,show e≤60 by omega,show v≤15 by omega,Nat.zero_le _,hEd,by decide,Nat.zero_le _,Nat.zero_le _,⟨Nat.zero_le _,by show ∀ s∈([]:List St),_;simp⟩,⟨by show(bys.map _).length≤3;rw[List.length_map];omega,?_⟩,by intro b a;cases a⟩⟩;intro c hc;obtain⟨f,p,rfl⟩:=List.mem_map.1 (show c∈bys.map _ from hc);have:=q f p;exact⟨by dsimp only;omega,by dsimp only;omega,by dsimp only;rw[hLw];omega⟩
 ·obtain⟨⟨⟨⟨k,l⟩,i⟩,j⟩,_⟩:=h;have d:=(m n i j).1;have:=d.tsz;exact⟨(rho n).t,⟨⟨Nat.le_of_ble_eq_true rfl,Nat.le_of_ble_eq_true rfl⟩,show e≤60 by omega,Nat.zero_le _,Nat.zero_le _,hEe _ d,by omega,(hCb m n j).2.1,Nat.zero_le _,⟨Nat.zero_le _,by show ∀ s∈([]:List St),_;simp⟩,⟨Nat.zero_le _,by show ∀ c∈([]:List (Nat×Nat×ByteArray)),_;simp⟩,by intro b a;cases a⟩⟩
 ·exact⟨⟨#[0]⟩,⟨⟨Nat.le_of_ble_eq_true rfl,Nat.le_of_ble_eq_true rfl⟩,show e≤60 by omega,Nat.zero_le _,Nat.zero_le _,hEd,by decide,Nat.zero_le _,Nat.zero_le _,⟨Nat.zero_le _,by show ∀ s∈([]:List St),_;simp⟩,⟨Nat.zero_le _,by show ∀ c∈([]:List (Nat×Nat×ByteArray)),_;simp⟩,by intro b a;cases a⟩⟩
 ·obtain⟨⟨⟨⟨k,l⟩,i⟩,j⟩,o⟩:=h;obtain⟨g,q⟩:=hA6 _ o;have r:=hDi (q.imp fun h=>Nat.ne_of_lt h) g;have u:=hIu m 1 4 (by omega);have:=hHk 4 (ledT rho 1 4);refine⟨⟨#[0]⟩,⟨⟨Nat.le_of_ble_eq_true rfl,Nat.le_of_ble_eq_true rfl⟩,show e≤60 by omega,Nat.zero_le _,show n≤100 by omega,hEd,by decide,Nat.zero_le _,show(ledT rho 1 4).size≤500 by omega,⟨by show(sgl bys _).length≤4;unfold sgl;rw[List.length_map];exact r,?_⟩,⟨Nat.zero_le _,by show ∀ c∈([]:List (Nat×Nat×ByteArray)),_;simp⟩,by intro b a;injection a with a;subst a;exact⟨r,g⟩⟩⟩;intro s u;obtain⟨f,p,rfl⟩:=List.mem_map.1 (show s∈bys.map _ from u);have:=g f p;exact⟨by dsimp only;omega,by dsimp only;omega,by dsimp only;omega⟩
theorem hKa {rho:Nat→Rq} (b:ROk rho) {x:SMsg} (c:x.ok=true) (o:Tags) (zz:Sls) (w:World) (a:(x.fm rho).At w o zz) :
  Calls Tryz.prog 60 #[.agg ((x.fm rho).cells zz)] w fun e w'=>(∃ s,e=.returned (.tuple #[.string s,.int .i64 0]))∧Below w.heap.size w w':=by
 obtain⟨t,f⟩:=hNv b c;exact hW5 _ t f zz o w a (fun w' d=>hY6 b c o zz w' (a.fix (P:=fun _=>True) (Fix.same (o:=o) d) trivial))
theorem hLo {rho:Nat→Rq} (k:ROk rho) {x:SMsg} (l:x.ok=true) (f g:Nat):PkOk (f,g,x.fm rho):=by
 obtain⟨t,b⟩:=hNv k l;have d:(linkS (x.fm rho).links).length≤4∧∀ s∈linkS (x.fm rho).links,0≤s.1∧s.1<200∧s.2.size≤8:=by
  have h:=b.links;cases hl:(x.fm rho).links with
  |none=>exact⟨Nat.zero_le _,by intro s a;exact absurd a (by simp[linkS])⟩
  |some bys=>
   obtain⟨e,i⟩:=h bys hl;refine⟨by show(sgl bys _).length≤4;unfold sgl;rw[List.length_map];exact e,fun s a=>?_⟩;obtain⟨f,j,rfl⟩:=List.mem_map.1 (show s∈bys.map _ from a);have:=i f j;have:=hAv 1;exact⟨by dsimp only;omega,by dsimp only;omega,by dsimp only;omega⟩
 refine⟨show(x.fm rho).sigs.length≤16 by have:=b.sigs.1;omega,show(x.fm rho).chs.length≤10 by have:=b.chs.1;omega,show(linkS (x.fm rho).links).length≤16 by have:=d.1;omega,fun s a=>?_⟩;unfold FM.terms at a;rcases List.mem_append.1 a with a | a
 ·rcases List.mem_append.1 a with a | a
  ·have:=b.sigs.2 s a;refine⟨by omega,by omega,?_⟩;unfold maxLen;omega
  ·obtain⟨c,hc,rfl⟩:=List.mem_map.1 a;have:=b.chs.2 c hc;refine⟨by dsimp only;omega,by dsimp only;omega,?_⟩;unfold maxLen;dsimp only;omega
 ·have:=d.2 s a;refine⟨by omega,by omega,?_⟩;unfold maxLen;omega
theorem hZf {r:SRep} {m:Nat} (h:r.ok=true) (y:m≤935):Num r m:=by
 unfold SRep.ok at h;simp only[Bool.and_eq_true,decide_eq_true_eq,beq_iff_eq,List.isEmpty_iff,List.all_eq_true] at h;obtain⟨⟨⟨⟨⟨⟨⟨⟨⟨⟨⟨⟨⟨⟨⟨⟨⟨⟨⟨⟨j,k⟩,l⟩,n⟩,o⟩,p⟩,q⟩,s⟩,t⟩,a⟩,b⟩,c⟩,d⟩,u⟩,e⟩,f⟩,v⟩,w⟩,x⟩,g⟩,i⟩:=h;exact⟨j,l,n,k,o,p,q,s,t,a,b,c,d,by omega,by rw[g];simp;omega,by omega,e,f,i⟩
theorem RepF.fresh {o:Tags} {w:World} {rho:Nat→Rq} {b:Nat} {z:RB} {r:SRep} {be m m':Nat} (h:RepF w o rho b z r be m) (a:r.ok=true) (c:m'≤935):RepF w o rho b z r be m':=⟨hZf a c,h.part⟩
theorem hKz {c c':SCli} {f:Nat} {x:SMsg} (h:SW.cHandle c f x=some c'):SW.cok c=true∧x.ok=true∧f<4∧(x.kind=8∧SW.cReply c f x=some c'∨x.kind=10∧c'={ c with chain:=some (match c.chain with | none=>x.bys | some l=>l) }):=by
 unfold SW.cHandle at h;split at h
 ·cases h
 ·rename_i hc;simp only[Bool.or_eq_true,Bool.not_eq_true',not_or,Bool.not_eq_false,decide_eq_false_iff_not,Decidable.not_not] at hc;obtain⟨⟨b,a⟩,d⟩:=hc;refine⟨b,a,d,?_⟩;rcases hD4 a with hk | hk | hk | hk | hk | hk | hk | hk | hk | hk<;>rw[hk] at h ⊢;all_goals first
   |exact absurd (show none=some c' from h) (by simp)
   |(left;exact⟨rfl,h⟩)
   |(right;injection h with h;exact⟨rfl,h.symm⟩)
theorem CliAt.chain_set {o o':Tags} {w w':World} {rho:Nat→Rq} {b:Nat} {z:CB} {c:SCli} {ch:Option (List Nat)} (h:CliAt w o rho b z c) (f:Fix (fun t=>t≠tg 4 3) o o' w w') (hc:TrAt w' o' (tg 4 3) z.ch (chainL ch)):CliAt w' o' rho b z { c with chain:=ch }:=by
 obtain⟨xs,j,d⟩:=h.acc;refine⟨h.blk.fix f (by decide),hc,fun i=>?_,⟨xs,j.fix f (by decide),d⟩,h.res.fix f (by decide)⟩;obtain⟨mb,e,g,a⟩:=h.came i;obtain⟨k1,k2⟩:=g.fixT f (by rw[a];decide);exact⟨mb,e,k1,k2.trans a⟩
theorem fm10 {rho:Nat→Rq} {x:SMsg} (a:x.kind=10):(x.fm rho).links=some x.bys:=by
 unfold SMsg.fm;rw[a];rfl
theorem hU8 {o:Tags} {rho:Nat→Rq} {b:Nat} {z:CB} {c:SCli} {bys:List Nat} {LA:Option Addr} {lc:Nat} (w:World) (h:CliAt w o rho b z c) (i:LinkD w o LA lc bys) :
  Calls Tryz.prog 197 #[.pointer (some ⟨z.ch,0,none⟩),.slice LA 1 lc] w fun e w'=>(∃ n,e=.returned (.int .i64 n))∧∃ o',CliAt w' o' rho b z { c with chain:=some (match c.chain with | none=>bys | some l=>l) }∧ChgR 5 o o' w w':=by
 cases hc:c.chain with
 |none=>
  have a:=h.ch;rw[hc] at a;refine(hWq z.ch (tg 4 3) (by decide) o LA lc bys w a i).mono ?_;rintro e w' ⟨f,o',d,g⟩;exact⟨⟨_,f⟩,o',h.chain_set (g.fix (by simp)) d,Chg.r (k:=5) (p:=3) g (by decide)⟩
 |some l=>
  have a:=h.ch;rw[hc] at a;refine(hWr z.ch l (tg 4 3) o LA lc bys w a i).mono ?_;rintro e w' ⟨f,d⟩;refine⟨⟨_,f⟩,o,?_,ChgR.below d (fun _ _=>rfl)⟩;have:=h.keep d;have e2 : { c with chain:=some l }=c:=by rw[←hc]
  dsimp only;rw[e2];exact this
theorem hQd {o:Tags} {rho:Nat→Rq} {b:Nat} {z:CB} {c c':SCli} {f:Nat} (hr:ROk rho) {x:SMsg} (B:SW.cHandle c f x=some c') (now:Nat) (zz:Sls) (w:World) (h:CliAt w o rho b z c) (ha:(x.fm rho).At w o zz) :
  Calls Tryz.prog 194 #[.pointer (some ⟨b,0,none⟩),.int .i64 now,.int .i64 f,.agg ((x.fm rho).cells zz)] w fun e w'=>e=.returned (.slice none 0 0)∧∃ o' z',CliAt w' o' rho b z' c'∧ChgR 5 o o' w w':=by
 obtain⟨Q,t,hf,H⟩:=hKz B;have d:=zH ((Below.refl w.heap.size w).alloc (Nat.le_refl _) (.cells ((x.fm rho).cells zz) 48));have u:=zH (heap_alloc_new w (.cells ((x.fm rho).cells zz) 48));have N:=zH (h.keepT d.o (Tags.ext_old o w.heap.size 7));have I:=Tags.ext_old o w.heap.size 7;have p:=zH (ChgR.below (k:=5) d.o I);have J:=zH (ha.fix (P:=fun _=>True) (Fix.below d.o I) trivial);have n:=zH (hKa hr t _ zz _ J.o);have E:=zH (fun(w:World) (o:Tags) (z:CB) (m:x.kind=8) (B:SW.cReply c f x=some c') (h:CliAt w o rho b z c)=>hSi hr m t Q hf B zz w h);have Y:(x.fm rho).kind=x.kind:=(FM.small rho t).2.2.2.1;have Hp:=zH t;obtain⟨M,hM⟩:=zN (((x.fm rho).cells zz).toList);have O:M.length=17:=by rw[hM];rfl
 have G:(x.fm rho).cells zz=M.toArray:=by rw[hM]
 have X:M.toArray[0]?=some (.int .i64 x.kind):=by
  rw[←G,←Y];rfl
 have i:M.toArray[16]?=some (.slice zz.A4 (if (x.fm rho).links.isSome then 1 else 0) zz.c4):=by
  rw[←G];rfl
 rw[G] at d u N J p n E ⊢;generalize o.ext w.heap.size 7=o1 at N J p n I;have U:=zH X;have K:=zH i;have V:zI ((Tryz.prog.info? 48).map (·.size)=some M.length):=zH (by rw[O];kernel_rfl);have F:=zH (show(w.alloc (.cells M.toArray 48)).rangeAt w.heap.size 0 M from fun j v hv=>by
  rw[zR _ _ _ _ _ _ u.o,Nat.zero_add];simpa using hv)
 have l:=zH H;clear h ha B Q t hf H I hM O G X i Y hr;go_enter Tryz.func194,Tryz.ntmps194;go_wp2_with (refine wpList_load_mid rfl 48 (.tmp 7) rfl w.heap.size 0 (by rfl) M _ F.o Tryz.underlying48 rfl V.o ?_);obtain⟨g,hg⟩:=zN (w.heap.size);rw[←hg] at u F ⊢;clear hg;generalize w.alloc _=w1 at d u N J p n F ⊢;refine n.o.mono ?_;rintro e w2 ⟨⟨s,rfl⟩,q⟩;have D:=zH (N.o.keep q);have S:=zH (p.o.trans (ChgR.below (k:=5) (o':=o1) q (fun _ _=>rfl)));have C:=zH ((q.block g (zL u.o)).trans u.o);have Hg:=zH (J.o.fix (P:=fun _=>True) (Fix.same (o:=o1) q) trivial);have Z:=zH (show w2.rangeAt g 0 M from fun j v hv=>by
  rw[zR _ _ _ _ _ _ C.o,Nat.zero_add];simpa using hv)
 have k0:=(zR _ g 0 _ _ _ C.o).trans U.o;clear q N p u J n F d U;rcases l.o with⟨m,B⟩ | ⟨m,hc⟩
 ·rw[m] at k0;have T:=zH (E.o w2 o1 z m B D.o);clear m B l E K;go_wp2_with (refine wpList_load_mid rfl 48 (.tmp 7) rfl g 0 (by rfl) M _ Z.o Tryz.underlying48 rfl V.o ?_);refine T.o.mono ?_;rintro e w3 ⟨rfl,o3,z3,r,a⟩;have L:=zH (And.intro r (S.o.trans a));clear r a T k0;go_wp2_with fail;go_ret;exact⟨rfl,o3,z3,L.o.1,L.o.2⟩
 ·rw[m] at k0;have i:=(zR _ g 16 _ _ _ C.o).trans K.o;have hl:=fm10 (rho:=rho) m;rw[hl] at i;have Hj:zI (LinkD w2 o1 zz.A4 zz.c4 x.bys):=zH (by
   have h:=Hg.o.links;rw[hl] at h;exact h)
  have Hh:=zH hc;clear hc hl m l E K;go_upto_region 10 with fail;have gl:=(zL C.o);have x1:w2.cell? ⟨b,1,none⟩=some (.pointer (some ⟨z.ch,0,none⟩)):=D.o.cell 1 rfl;have x1:=fun y:Bel w2.heap.size w2=>y.cell D.o.lt x1;have x16:=fun y:Bel w2.heap.size w2=>y.cell gl (show w2.cell? ⟨g,16,none⟩=some (.slice zz.A4 1 zz.c4) from i);clear i k0 gl;refine hAi 6 w2.heap.size w2 (by kernel_rfl) (by kernel_rfl) (Below.refl _ _) ?_;simp only[List.take_succ_cons,List.take_zero,List.drop_succ_cons,List.drop_zero];repeat (go_big_quiet_step (fail))
  refine wpQuiet_nil ?_;rintro⟨wy,R⟩;show wpList _ _ _ _ _ wy;have W:=zH (hU8 wy (D.o.keep R) (Hj.o.fix (P:=fun _=>True) (Fix.same (o:=o1) R) trivial));have Hi:=zH (S.o.trans (ChgR.below (k:=5) (o':=o1) R (fun _ _=>rfl)));clear x1 x16 R;go_wp2_with fail;refine W.o.mono ?_;rintro e w3 ⟨⟨n3,rfl⟩,o3,r,a⟩;have L:=zH (show CliAt w3 o3 rho b z c'∧ChgR 5 o o3 w w3 from⟨by rw[Hh.o];exact r,Hi.o.trans a⟩);clear r a W;go_wp2_with fail;go_ret;exact⟨rfl,o3,z,L.o.1,L.o.2⟩
end Go.Proofs.YtlibpcllceepkaaGreat
