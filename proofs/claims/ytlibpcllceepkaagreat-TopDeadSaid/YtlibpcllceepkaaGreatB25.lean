/- Joined texts of the claim. No condition. -/
import Derived.Test.YtlibpcllceepkaaGreatB24
import Derived.Test.YtlibpcllceepkaaGreatB02
import Derived.Test.YtlibpcllceepkaaGreatB11
import Derived.Deep.CutRange
import Derived.Test.YtlibpcllceepkaaGreatB21
namespace Go.Proofs.YtlibpcllceepkaaGreat
open Go.RowKit
set_option maxRecDepth 100000
set_option linter.unusedVariables false
set_option linter.unusedSimpArgs false
set_option maxHeartbeats 16000000
theorem hWy {P:Program} {ops:Array Oper} {Q:Exit→Act→World→Prop} {md:Region.Mode} {S:World→Prop} {fuel:Nat} {listed:Array Bool} {a:Act} {w:World}
  (i6 i7 d6 d7:Nat) {o6 o7:Oper} (G:ops[i6]?=some o6) (H:ops[i7]?=some o7)
  (r0:Region.ready md ops listed=[i6]) (r1:Region.ready md ops (listed.setIfInBounds i6 true)=[i7])
  (g6:o6.guard=none) (g7:o7.guard=none) (e6:o6.dst=some d6) (e7:o7.dst=some d7)
  (t e:TypeId) (x6 x7:Operand) (p6:o6.op=.buildSlice t 1 #[(0,x6)]) (p7:o7.op=.call { callee:=.builtin .append,args:=#[x7,.tmp d6],argTypes:=#[t,t] })
  (o:Tags) (nd:Nat) (ie:TypeInfo) (z:Value) (k bytes:Nat) (D:P.underlying t=some (.slice e)) (j:P.info? e=some ie) (F:ie.zero=some z) (B:ie.size=k) (y:ie.bytes=bytes) (m:z.cells.size=k) (f:0<k) (C:k≤2 ^ 24)
  (A:Option Addr) (n c:Nat) (xs:List Value) (q:Row w o nd e k (.slice A n c) n xs)
  (u:Array Value) (l:u.size=k) (E:∀ v∈u.toList,v.oneCell'=true)
  (v7:∀ a':Act,a'.tmps=a.tmps.setIfInBounds d6 (.slice (some ⟨w.heap.size,0,none⟩) 1 1)→a'.eval x7=.slice A n c) (v6:a.eval x6=.agg u)
  (z6:d6<a.tmps.size)
  (r:n+1≤maxLen) (b:(n+1)*bytes≤140737488355328)
  (s:S (w.alloc (.cells u e))) (x:∀ v' W,AppOut (w.alloc (.cells u e)) o nd e k (.slice A n c) v' W (n+1) (xs++u.toList)→S W)
  (h:∀ v' W,AppOut (w.alloc (.cells u e)) o nd e k (.slice A n c) v' W (n+1) (xs++u.toList)→S W →
   wpAnyH P md ops Q S fuel ((listed.setIfInBounds i6 true).setIfInBounds i7 true) { a with tmps:=(a.tmps.setIfInBounds d6 (.slice (some ⟨w.heap.size,0,none⟩) 1 1)).setIfInBounds d7 v' } W) :
  wpAnyH P md ops Q S (fuel+2) listed a w:=by
 have g:=q.alloc (.cells u e);refine wpAnyH_ready (rs:=[i6]) r0 (by simp) (AllReadyH.cons G (fun K p=>?_) AllReadyH.nil);rw[if_pos (Region.wanted_plain g6 _)];unfold Oper.wp execOp;simp only[p6,List.map_toArray,List.map_cons,List.map_nil,v6,Sem.run_bind,hDx t e u ie z k D j F B l m f C,Result.andThen_ok,Sem.run_pure,Oper.upon_value];rw[e6];refine p.out _ _ s (fun _=>?_);refine wpAnyH_ready (rs:=[i7]) r1 (by simp) (AllReadyH.cons H (fun K p=>?_) AllReadyH.nil);refine hBq g7 x7 (.tmp d6) t p7 o nd e ie z k bytes D j F B y m f (.slice A n c) n xs (v7 _ rfl) g ⟨w.heap.size,0,none⟩ 1 1 u.toList ?_ (by simp[l]) (World.news_of_block (cs:=u) (t:=e) (fr:=(0,0)) (heap_alloc_new w _)) E r b ?_
 ·simp[Act.put,Act.eval,Array.getD_eq_getD_getElem?,Array.getElem?_setIfInBounds,z6]
 intro v' W d;have i:=x v' W d;refine p.out _ _ i (fun _=>?_);rw[e7];exact h v' W d i
theorem hGq (w:World):(zeroValue 318).run Tryz.prog w=.ok (.agg #[.string ⟨#[]⟩]) w:=by kernel_rfl
theorem hO6 {c c':SCli} {f:Nat} {x:SMsg} (h:SW.cReply c f x=some c'):SW.known c x.e=true∧(c.open_=false∧c'=c∨c.open_=true∧x.n=c.stamp∧(x.e,f)∉c.came ∧
  (SW.alike (c.came++[(x.e,f)]) x.e 4<2∧c'={ c with came:=c.came++[(x.e,f)] }∨2≤SW.alike (c.came++[(x.e,f)]) x.e 4∧c'={ c with came:=c.came++[(x.e,f)],acc:=c.acc+1,open_:=false })):=by
 unfold SW.cReply at h;split at h
 ·cases h
 ·rename_i g;refine⟨by simpa using g,?_⟩;split at h
  ·rename_i b;injection h with h;exact .inl ⟨by simpa using b,h.symm⟩
  ·rename_i b;split at h
   ·cases h
   ·rename_i a;simp only[Bool.or_eq_true,Bool.not_eq_true',beq_eq_false_iff_ne,decide_eq_true_eq,not_or,ne_eq,Decidable.not_not] at a;refine .inr ⟨by simpa using b,a.1,a.2,?_⟩;injection h with h;split at h
    ·rename_i d;exact .inr ⟨d,h.symm⟩
    ·rename_i d;exact .inl ⟨by omega,h.symm⟩
theorem hVe {c:SCli} {e:Nat} (h:SW.known c e=true):e≤(chainL c.chain).length:=by
 unfold SW.known at h;cases hc:c.chain with
 |none=>rw[hc] at h;simp at h;simp[chainL,h]
 |some l=>
  rw[hc] at h;simp at h;simp[chainL];omega
theorem hPn {rho:Nat→Rq} {n e f:Nat} {l:List (Nat×Nat)} (h:(e,f)∉l):∀ p∈cameL rho n l,p.1≠.agg #[.int .i64 e,.int .i64 f]:=by
 intro p g b;obtain⟨x,i,rfl⟩:=List.mem_map.1 g;dsimp only at b;injection b with b;have c:x.1=e:=by
  have:=congrArg (fun a:Array Value=>a[0]?) b;simp at this;omega
 have d:x.2=f:=by
  have:=congrArg (fun a:Array Value=>a[1]?) b;simp at this;omega
 exact h (by rw[←c,←d];exact i)
theorem hU5 {rho:Nat→Rq} {n e f:Nat} {l:List (Nat×Nat)} (h:(e,f)∈l):∃ l1 l2,cameL rho n l=l1++(.agg #[.int .i64 e,.int .i64 f],.agg #[.string (resT (hist rho n).2.1 (hist rho n).2.2)])::l2:=by
 obtain⟨l1,l2,rfl⟩:=List.append_of_mem h;exact⟨cameL rho n l1,cameL rho n l2,by unfold cameL;rw[List.map_append];rfl⟩
theorem hU4 (rho:Nat→Rq) (n e f:Nat) (l:List (Nat×Nat)):cameL rho n (l++[(e,f)])=cameL rho n l++[(.agg #[.int .i64 e,.int .i64 f],.agg #[.string (resT (hist rho n).2.1 (hist rho n).2.2)])]:=by
 unfold cameL;rw[List.map_append];rfl
theorem CliAt.came_set {o o':Tags} {w w':World} {rho:Nat→Rq} {b:Nat} {z:CB} {c:SCli} {mb:Nat} {l:List (Nat×Nat)} (h:CliAt w o rho b z c) (f:Fix (fun t=>t≠tg 4 5) o o' w w') (i:z.mp=some mb) (d:MpK 316 w' mb (cameL rho c.stamp l)) (e:o' mb=tg 4 5):CliAt w' o' rho b z { c with came:=l }:=by
 obtain⟨xs,g,a⟩:=h.acc;exact⟨h.blk.fix f (by decide),h.ch.fix f (by decide) (by decide),fun _=>⟨mb,i,d,e⟩,⟨xs,g.fix f (by decide),a⟩,h.res.fix f (by decide)⟩
theorem Mem.map_grown {k:TypeId} {w w':World} {mb:Nat} {L:List KV} {A:Option Addr} {c:Nat} (h:Mem w A c) (o:MpK k w mb L) (f:w.grownBy w' (some mb)):Mem w' A c:=by
 obtain⟨i,l,b,off,m,a,d⟩:=h;obtain⟨es,cl,m1,_⟩:=o;have g:b≠mb:=fun e=>by
  have:=d 0 (by omega);rw[e] at this;unfold World.cell? at this;rw[m1] at this;simp at this
 refine⟨i,l,b,off,m,Nat.lt_of_lt_of_le a f.size,fun j n=>?_⟩;have:=d j n;unfold World.cell? at this ⊢;rw[f.block b a (fun e=>g (Option.some.inj e))];exact this
theorem hCc {k:TypeId} {w w':World} {mb g:Nat} {L:List KV} {cs:Array Value} {T:TypeId} {fr:Nat×Nat} (h:w.heap[g]?=some (.cells cs T fr)) (b:MpK k w mb L) (a:w.grownBy w' (some mb)):w'.heap[g]?=some (.cells cs T fr):=by
 obtain⟨es,cl,m1,_⟩:=b;refine(a.block g (zL h) (fun e=>?_)).trans h;rw[Option.some.inj e,m1] at h;cases h
theorem hIj (l:List (Nat×Nat)) (e k:Nat):SW.alike l e (k+1)=if (e,k)∈l then SW.alike l e k+1 else SW.alike l e k:=rfl
theorem hLq (l:List (Nat×Nat)) (e:Nat):∀ k,SW.alike l e k≤k
 |0=>Nat.le_refl _
 |k+1=>by
  have:=hLq l e k;rw[hIj];split<;>omega
structure AccAt (w:World) (o:Tags) (rho:Nat→Rq) (b:Nat) (z:CB) (c:SCli) (VA:Option Addr) (VC:Nat) (ys:List Value):Prop where
 blk:Blk w o (tg 4 1) b 99 ((cliC rho z c).setIfInBounds 10 (.slice VA (c.acc+1) VC))
 ch:TrAt w o (tg 4 3) z.ch (chainL c.chain)
 acc:Row w o (tg 4 6) 95 7 (.slice VA (c.acc+1) VC) (c.acc+1) ys
 one:∀ u∈ys,u.oneCell'=true
 res:Row w o (tg 4 8) 43 2 (.slice z.R c.acc z.rc) c.acc (resL rho c.acc)
theorem AccAt.fix {P:Nat→Prop} {o o':Tags} {w w':World} {rho:Nat→Rq} {b:Nat} {z:CB} {c:SCli} {VA:Option Addr} {VC:Nat} {ys:List Value} (h:AccAt w o rho b z c VA VC ys) (f:Fix P o o' w w') (d:P 0) (a:∀ p,P (tg 4 p)):AccAt w' o' rho b z c VA VC ys:=
 ⟨h.blk.fix f (a 1),h.ch.fix f (a 3) d,h.acc.fix f (a 6),h.one,h.res.fix f (a 8)⟩
theorem hKm {o:Tags} {w w5:World} {rho:Nat→Rq} {b:Nat} {z:CB} {c:SCli} {C7:Array Value} {U:Array Value} {VA:Option Addr} {VC ac:Nat} {ys zs:List Value} (h:CliAt w o rho b z c) (q:w.heap[b]?=some (.cells C7 99 (0,0)))
  (a:AppOut (w.alloc (.cells U 95)) o (tg 4 6) 95 7 (.slice z.A ac z.ac) (.slice VA (ac+1) VC) w5 (ac+1) zs) (i:w5.heap[b]?=some (.cells C7 99 (0,0))) (g:ac=c.acc) (f:C7=cliC rho z c) (s:Row w o (tg 4 6) 95 7 (.slice z.A ac z.ac) ac ys) (m:∀ u∈zs,u.oneCell'=true) :
  ∃ o' VB VD ys',AccAt (w5.setCell ⟨b,10,none⟩ (.slice VA (ac+1) VC)) o' rho b z c VB VD ys'∧ChgR 5 o o' w (w5.setCell ⟨b,10,none⟩ (.slice VA (ac+1) VC)):=by
 subst g;have d:=(Below.refl w.heap.size w).alloc (Nat.le_refl _) (.cells U 95);have l:Chg (tg 4 6) o o w (w.alloc (.cells U 95)):=Chg.below d (fun _ _=>rfl);have e:=l.trans a.chg;have j:b<(w.alloc (.cells U 95)).heap.size:=Nat.lt_of_lt_of_le h.lt d.size;have n:Blk w5 (o.ext (w.alloc (.cells U 95)).heap.size (tg 4 6)) (tg 4 1) b 99 C7:=⟨i,(Tags.ext_old _ _ _ _ j).trans h.blk.2⟩;obtain⟨k1,k2,k3⟩:=n.set 10 (.slice VA (c.acc+1) VC);rw[f] at k1;have f1:Fix (fun t=>t≠tg 4 6) o (o.ext (w.alloc (.cells U 95)).heap.size (tg 4 6)) w w5:=e.fix (by simp);have f2:Fix (fun t=>t≠tg 4 1) (o.ext (w.alloc (.cells U 95)).heap.size (tg 4 6)) (o.ext (w.alloc (.cells U 95)).heap.size (tg 4 6)) w5 (w5.setCell ⟨b,10,none⟩ (.slice VA (c.acc+1) VC)):=k3.fix (by simp);refine⟨_,VA,VC,zs,⟨k1,(h.ch.fix f1 (by decide) (by decide)).fix f2 (by decide) (by decide),a.row.fix f2 (by decide),m,(h.res.fix f1 (by decide)).fix f2 (by decide)⟩,(Chg.r (k:=5) (p:=6) e (by decide)).trans (Chg.r (k:=5) (p:=1) k3 (by decide))⟩
theorem hHd:(Tryz.prog.info? 43).map (fun i=>(i.zero,i.size,i.bytes))=some (some (.agg #[.int .i64 0,.float .f64 0]),2,16):=by kernel_rfl
structure ResAt (w:World) (o:Tags) (rho:Nat→Rq) (b:Nat) (z:CB) (c:SCli) (VA:Option Addr) (VC:Nat) (ys:List Value) (RA:Option Addr) (RC:Nat) (rs:List Value):Prop where
 blk:Blk w o (tg 4 1) b 99 (((cliC rho z c).setIfInBounds 10 (.slice VA (c.acc+1) VC)).setIfInBounds 11 (.slice RA (c.acc+1) RC))
 ch:TrAt w o (tg 4 3) z.ch (chainL c.chain)
 acc:Row w o (tg 4 6) 95 7 (.slice VA (c.acc+1) VC) (c.acc+1) ys
 one:∀ u∈ys,u.oneCell'=true
 res:Row w o (tg 4 8) 43 2 (.slice RA (c.acc+1) RC) (c.acc+1) rs
theorem hT5 {o:Tags} {w w5:World} {rho:Nat→Rq} {b:Nat} {z:CB} {c:SCli} {C8:Array Value} {U:Array Value} {VA RA:Option Addr} {VC RC ac:Nat} {ys rs zs:List Value} (h:AccAt w o rho b z c VA VC zs) (n:w.heap[b]?=some (.cells C8 99 (0,0)))
  (a:AppOut (w.alloc (.cells U 43)) o (tg 4 8) 43 2 (.slice z.R ac z.rc) (.slice RA (ac+1) RC) w5 (ac+1) rs) (i:w5.heap[b]?=some (.cells C8 99 (0,0))) (g:ac=c.acc) (f:C8=(cliC rho z c).setIfInBounds 10 (.slice VA (c.acc+1) VC)) (q:Row w o (tg 4 8) 43 2 (.slice z.R ac z.rc) ac ys) :
  ∃ o' RB RD,ResAt (w5.setCell ⟨b,11,none⟩ (.slice RA (ac+1) RC)) o' rho b z c VA VC zs RB RD rs∧ChgR 5 o o' w (w5.setCell ⟨b,11,none⟩ (.slice RA (ac+1) RC)):=by
 subst g;have d:=(Below.refl w.heap.size w).alloc (Nat.le_refl _) (.cells U 43);have l:Chg (tg 4 8) o o w (w.alloc (.cells U 43)):=Chg.below d (fun _ _=>rfl);have e:=l.trans a.chg;have j:b<(w.alloc (.cells U 43)).heap.size:=Nat.lt_of_lt_of_le h.blk.lt d.size;have m:Blk w5 (o.ext (w.alloc (.cells U 43)).heap.size (tg 4 8)) (tg 4 1) b 99 C8:=⟨i,(Tags.ext_old _ _ _ _ j).trans h.blk.2⟩;obtain⟨k1,k2,k3⟩:=m.set 11 (.slice RA (c.acc+1) RC);rw[f] at k1;have f1:Fix (fun t=>t≠tg 4 8) o (o.ext (w.alloc (.cells U 43)).heap.size (tg 4 8)) w w5:=e.fix (by simp);have f2:Fix (fun t=>t≠tg 4 1) (o.ext (w.alloc (.cells U 43)).heap.size (tg 4 8)) (o.ext (w.alloc (.cells U 43)).heap.size (tg 4 8)) w5 (w5.setCell ⟨b,11,none⟩ (.slice RA (c.acc+1) RC)):=k3.fix (by simp);refine⟨_,RA,RC,⟨k1,(h.ch.fix f1 (by decide) (by decide)).fix f2 (by decide) (by decide),(h.acc.fix f1 (by decide)).fix f2 (by decide),h.one,a.row.fix f2 (by decide)⟩,(Chg.r (k:=5) (p:=8) e (by decide)).trans (Chg.r (k:=5) (p:=1) k3 (by decide))⟩
theorem sets12c (a0 a1 a2 a3 a4 a5 a6 a7 a8 a9 a10 a11 v3 v4 v5 v6 v7 v8 v10 v11:Value):setsC [(3,v3),(4,v4),(5,v5),(6,v6),(7,v7),(8,v8)] ((#[a0,a1,a2,a3,a4,a5,a6,a7,a8,a9,a10,a11].setIfInBounds 10 v10).setIfInBounds 11 v11)=#[a0,a1,a2,v3,v4,v5,v6,v7,v8,a9,v10,v11]:=by
 simp only[setsC,List.setIfInBounds_toArray,List.set_cons_zero,List.set_cons_succ]
theorem hIm (rho:Nat→Rq) (z:CB) (c:SCli) (VA RA:Option Addr) (VC RC:Nat) :
  setsC [(3,.int .i64 0),(4,.int .i64 0),(5,.int .i64 0),(6,.string ⟨#[]⟩),(7,.float .f64 0),(8,.int .i64 0)] (((cliC rho z c).setIfInBounds 10 (.slice VA (c.acc+1) VC)).setIfInBounds 11 (.slice RA (c.acc+1) RC))=cliC rho { z with A:=VA,ac:=VC,R:=RA,rc:=RC } { c with acc:=c.acc+1,open_:=false }:=by
 have e1:SCli.cop { c with acc:=c.acc+1,open_:=false }=0:=rfl;have e2:wcl 0=0:=rfl;have e3:wrq rho 0=zeroRq:=if_pos rfl;unfold cliC;rw[e1,e2,e3,sets12c];rfl
theorem hQf {o:Tags} {rho:Nat→Rq} {b:Nat} {z:CB} {c c':SCli} {f:Nat} (hr:ROk rho) {x:SMsg} (hk:x.kind=8) (cz:x.ok=true) (U:SW.cok c=true) (hf:f<4) (hx:SW.cReply c f x=some c') (zz:Sls) (w:World) (dT:∀ x,w.heap.size≤x→o x=7) (h:CliAt w o rho b z c) :
  Calls Tryz.prog 196 #[.pointer (some ⟨b,0,none⟩),.int .i64 f,.agg ((x.fm rho).cells zz)] w fun e w'=>e=.returned (.tuple #[])∧∃ o' z',CliAt w' o' rho b z' c'∧ChgR 5 o o' w w':=by
 obtain⟨dK,ao⟩:=hO6 hx;have cj:=hVe dK;obtain⟨kd,e,v,n,bys⟩:=x;dsimp only at hk cj ao;subst hk;unfold SMsg.ok at cz;simp only[Bool.and_eq_true,decide_eq_true_eq,beq_iff_eq,List.isEmpty_iff] at cz;obtain⟨⟨⟨⟨eC,-⟩,cu⟩,bw⟩,-⟩:=cz;have hq:=(hr n cu bw).1;have ci:=(hCb hr n bw).2.1;unfold SW.cok at U;simp only[Bool.and_eq_true,decide_eq_true_eq,Bool.or_eq_true,Bool.not_eq_true',beq_iff_eq] at U;have du:c.open_=true→c.acc+1=c.stamp:=fun h=>by
  rcases U.1.1.1.1.2 with h2 | h2
  ·rw[h] at h2;cases h2
  ·exact h2
 have dw:=U.1.1.1.1.1.1;have cg:=U.1.1.1.1.1.2;have eO:(chainL c.chain).length≤1:=by cases c.chain<;>simp[chainL]
 obtain⟨cd,ap⟩:=zN ((hist rho n).2.1);obtain⟨rl,cD⟩:=zN ((hist rho n).2.2);have aE:(SMsg.fm rho ⟨8,e,v,n,bys⟩).cells zz=#[.int .i64 8,.int .i64 e,.int .i64 0,.int .i64 0,.int .i64 1,.int .i64 ((rho n).st:Int),.int .i64 ((rho n).kind:Int),.string (rho n).key,.float .f64 (rho n).real,.int .i64 0,.int .i64 cd,.float .f64 rl,.string ⟨#[]⟩,.slice zz.A1 0 zz.c1,.slice zz.A2 0 zz.c2,.slice zz.A3 0 zz.c3,.slice zz.A4 0 zz.c4]:=by rw[ap,cD];rfl
 rw[aE];rw[←ap] at ci;have Ha:=(Below.refl w.heap.size w).alloc (Nat.le_refl _) (.cells #[.int .i64 8,.int .i64 e,.int .i64 0,.int .i64 0,.int .i64 1,.int .i64 ((rho n).st:Int),.int .i64 ((rho n).kind:Int),.string (rho n).key,.float .f64 (rho n).real,.int .i64 0,.int .i64 cd,.float .f64 rl,.string ⟨#[]⟩,.slice zz.A1 0 zz.c1,.slice zz.A2 0 zz.c2,.slice zz.A3 0 zz.c3,.slice zz.A4 0 zz.c4] 48);have hN:=heap_alloc_new w (.cells #[.int .i64 8,.int .i64 e,.int .i64 0,.int .i64 0,.int .i64 1,.int .i64 ((rho n).st:Int),.int .i64 ((rho n).kind:Int),.string (rho n).key,.float .f64 (rho n).real,.int .i64 0,.int .i64 cd,.float .f64 rl,.string ⟨#[]⟩,.slice zz.A1 0 zz.c1,.slice zz.A2 0 zz.c2,.slice zz.A3 0 zz.c3,.slice zz.A4 0 zz.c4] 48);have Hi:=zH Ha;have HN:=zH hN;have HR:=zH (h.keep Ha);have dr:=h.lt;have ai:=zH ao;have Hz:=zH (And.intro ap cD);have T:=zH (And.intro cu (And.intro bw (And.intro dw (And.intro cg (And.intro du (And.intro hf eC))))));have HQ:=zH hq;have HH:=zH h;have er:=zH ci;have eN:=zH hr;have ey:=zH dT;clear h dT hx dK ao U hr hq aE Ha hN ap cD dw cg du cu bw ci;go_enter Tryz.func196,Tryz.ntmps196;go_upto_region 1 with fail;obtain⟨g,hg⟩:=zN (w.heap.size);rw[←hg] at HN dr ⊢;have HG:=zH hg;clear hg;generalize w.alloc _=w1 at Hi HN HR ⊢;obtain⟨q,cC⟩:=zN (rho n);rw[←cC] at HN HQ;have dg:=zH cC;clear cC;have bX:=fun(W:World) (Q:Below w1.heap.size w1 W)=>zH (hWu z.ch (chainL c.chain) e cj (by omega) (tg 4 3) o W (HR.o.keep Q).ch);have ag:Below w1.heap.size w1 w1.drew:=Below.drew (Below.refl _ _);have an:=(Below.refl w1.heap.size w1).alloc (Nat.le_refl _) (.cells #[.int .i64 0,.slice none 0 0] 31);have aR:=Below.drew an;have dm:=bX _ ag;have dp:=bX _ aR;have cO:=zH ag;have bB:=zH aR;have gl:=(zL HN.o);have x1:w1.cell? ⟨b,1,none⟩=some (.pointer (some ⟨z.ch,0,none⟩)):=HR.o.cell 1 rfl;have x2:(w1.alloc (.cells #[.int .i64 0,.slice none 0 0] 31)).cell? ⟨b,1,none⟩=some (.pointer (some ⟨z.ch,0,none⟩)):=(HR.o.keep an).cell 1 rfl;have y1:=zQ w1 g 1 (.int .i64 e) HN.o;have y2:=(an.cell (p:=⟨g,1,none⟩) gl).trans y1;have cQ:=zH (show ∀ (w9:World) (A:Option Addr) (cc:Nat),Below w1.heap.size w1 w9→Mem w9 A cc→∀ g2 wx,g2=w9.heap.size→wx=w9.alloc (.cells #[.int .i64 e,.slice A 4 cc] 31)→∃ A cc,Below w1.heap.size w1 wx∧wx.heap[g2]?=some (.cells #[.int .i64 e,.slice A 4 cc] 31 (0,0))∧Mem wx A cc from by
  rintro w9 A cc hb hm g2 wx rfl rfl;exact⟨A,cc,hb.alloc hb.size _,heap_alloc_new _ _,hm.keep ((Below.refl w9.heap.size w9).alloc (Nat.le_refl _) _)⟩)
 have cR:=zH (show ∀ (w9:World) (A:Option Addr) (cc:Nat),Below w1.heap.size w1 w9→w9.heap[w1.heap.size]?=some (.cells #[.int .i64 0,.slice none 0 0] 31 (0,0))→MemN w9 (w1.heap.size+1) A cc→∀ wx,wx=(w9.setCell ⟨w1.heap.size,0,none⟩ (.int .i64 e)).setCell ⟨w1.heap.size,1,none⟩ (.slice A 4 cc)→∃ A cc,Below w1.heap.size w1 wx∧wx.heap[w1.heap.size]?=some (.cells #[.int .i64 e,.slice A 4 cc] 31 (0,0))∧Mem wx A cc from by
  rintro w9 A cc hb hn hm wx rfl;obtain⟨h1,h2,_⟩:=hAt w1.heap.size _ [(0,.int .i64 e),(1,.slice A 4 cc)] w1 w9 _ hn (Nat.le_refl _) hb;refine⟨A,cc,h2,h1,?_⟩;have g1:w9.grownBy (w9.setCell ⟨w1.heap.size,0,none⟩ (.int .i64 e)) (some w1.heap.size):=hAb (hAa (Below.refl _ _) _) (p:=⟨w1.heap.size,0,none⟩) (.inl rfl) _;have g2:(w9.setCell ⟨w1.heap.size,0,none⟩ (.int .i64 e)).grownBy ((w9.setCell ⟨w1.heap.size,0,none⟩ (.int .i64 e)).setCell ⟨w1.heap.size,1,none⟩ (.slice A 4 cc)) (some w1.heap.size):=hAb (hAa (Below.refl _ _) _) (p:=⟨w1.heap.size,1,none⟩) (.inl rfl) _;exact((hm.grown g1 (by omega)).grown g2 (by omega)).1)
 clear ag an aR bX cj;go_cut [6,7] from 18 (fun s6 s7 wx=>s7=.bool true∧∃ g2,s6=.pointer (some ⟨g2,0,none⟩)∧zI (∃ A cc,Below w1.heap.size w1 wx∧wx.heap[g2]?=some (.cells #[.int .i64 e,.slice A 4 cc] 31 (0,0))∧Mem wx A cc))
 case first=>
  go_region_law (first
   |(go_simp;go_at_call 142;refine dm.o.mono ?_;rintro e w9 ⟨⟨A,cc,rfl,cp⟩,bm⟩;have bM:=zH cp;have Hw:=zH (zB cO.o bm))
   |(go_simp;go_at_call 142;refine dp.o.mono ?_;rintro e w9 ⟨⟨A,cc,rfl,cp⟩,bm⟩;have bM:=zH cp;have Hw:=zH (zB bB.o bm);have C:=(bm.block w1.heap.size (by simp)).trans (heap_alloc_new w1 (.cells #[.int .i64 0,.slice none 0 0] 31));have n0:=zR _ _ 0 _ _ _ C;have n1:=zR _ _ 1 _ _ _ C;have nf:=fun k=>frozen_of_row _ _ k _ _ C;simp at n0 n1))
  all_goals
   go_wp2_with fail;go_meet
   case rel=>first
    |exact⟨rfl,_,rfl,zH (cQ.o _ _ _ Hw.o bM.o.1 _ _ (by with_reducible rfl) (by with_reducible rfl))⟩
    |exact⟨rfl,_,rfl,zH (cR.o _ _ _ Hw.o C (by have h:=bM.o;simpa using h) _ (by with_reducible rfl))⟩
 case rest=>
  obtain⟨rfl,g2,rfl,s⟩:=hcut;obtain⟨A,cc,bo,aF,dP⟩:=s.o;clear s x1 x2 y1 y2 dm dp cQ cR cO bB;have aX:=zH bo;have ax:=zH (HR.o.keep bo);have M:=zH ((bo.block g gl).trans HN.o);have cS:=zH aF;have bN:=zH dP;have I:b<wc.heap.size:=ax.o.lt;have Hc:g<wc.heap.size:=(zL M.o);have aq:g2<wc.heap.size:=(zL aF);have u0:=fun y:Bel wc.heap.size wc=>y.cell aq (zQ wc g2 0 (.int .i64 e) aF);have u1:=fun y:Bel wc.heap.size wc=>y.cell aq (zQ wc g2 1 (.slice A 4 cc) aF);have ba:=fun y:Bel wc.heap.size wc=>zH (has4 (f:Int) (e:Int) A cc y.w (bN.o.keep y.h));rw[decide_eq_true (show(0:Int)≤(f:Int)∧(f:Int)<4 by omega)] at ba;clear bo aF dP HR HN gl;go_upto_region 2 with fail;rcases ai.o with⟨Hf,rfl⟩ | ⟨Hf,aJ,J,bq⟩
  ·have az:=fun y:Bel wc.heap.size wc=>zH (show Calls Tryz.prog 83 #[.pointer (some ⟨b,0,none⟩)] y.w fun e w'=>e=.returned (.bool false)∧y.w=w' from by
    have h:=hCm (fun h=>by rw[Hf] at h;cases h) y.w (ax.o.keep y.h);rw[Hf] at h;exact h)
   clear Hf ai;refine hAg wc.heap.size wc (by kernel_rfl) (by kernel_rfl) (Below.refl _ _) ?_;repeat (go_big_quiet_step ((go_at_call 83;exact hAw (az _).o)))
   refine wpQuiet_nil ?_;rintro _ ⟨y,rfl⟩;have Hw:=zH (Hi.o.trans ((aX.o.trans (y.h.mono aX.o.size)).mono Hi.o.size));clear u0 u1 ba az;go_wp2_with fail;refine bodyPost_ret (results_none rfl _ _ _) rfl ?_;exact⟨rfl,o,z,HH.o.keep Hw.o,ChgR.below Hw.o (fun _ _=>rfl)⟩
  ·have az:=fun y:Bel wc.heap.size wc=>zH (show Calls Tryz.prog 83 #[.pointer (some ⟨b,0,none⟩)] y.w fun e w'=>e=.returned (.bool true)∧y.w=w' from by
    have h:=hCm (fun _=>by rw[←aJ];exact T.o.1) y.w (ax.o.keep y.h);rw[Hf] at h;exact h)
   have bV:=fun y:Bel wc.heap.size wc=>zH (hG0 q q HQ.o HQ.o true (decide_eq_true rfl) y.w);unfold Rq.v at bV;have dU:=ax.o.req Hf (by rw[←aJ];exact T.o.1);rw[←aJ,←dg.o] at dU;obtain⟨k3,k4,k5,k6,k7,k8⟩:=dU;have j3:=fun y:Bel wc.heap.size wc=>y.cell I k3;have j4:=fun y:Bel wc.heap.size wc=>y.cell I k4;have j5:=fun y:Bel wc.heap.size wc=>y.cell I k5;have j6:=fun y:Bel wc.heap.size wc=>y.cell I k6;have j7:=fun y:Bel wc.heap.size wc=>y.cell I k7;have j8:=fun y:Bel wc.heap.size wc=>y.cell I k8;have m4:=fun y:Bel wc.heap.size wc=>y.cell Hc (zQ wc g 4 (.int .i64 1) M.o);have m5:=fun y:Bel wc.heap.size wc=>y.cell Hc (zQ wc g 5 (.int .i64 q.st) M.o);have m6:=fun y:Bel wc.heap.size wc=>y.cell Hc (zQ wc g 6 (.int .i64 q.kind) M.o);have m7:=fun y:Bel wc.heap.size wc=>y.cell Hc (zQ wc g 7 (.string q.key) M.o);have m8:=fun y:Bel wc.heap.size wc=>y.cell Hc (zQ wc g 8 (.float .f64 q.real) M.o);have m9:=fun y:Bel wc.heap.size wc=>y.cell Hc (zQ wc g 9 (.int .i64 0) M.o);have Z:=zH (And.intro Hf (And.intro aJ J));have ak:=zH bq;clear Hf aJ J bq ai;refine hAg wc.heap.size wc (by kernel_rfl) (by kernel_rfl) (Below.refl _ _) ?_;repeat (go_big_quiet_step ((first
    |(go_at_call 83;exact hAw (az _).o)
    |(go_at_call 198;exact hAq (Nat.le_refl _) (ba _).o)
    |(go_at_call 199;exact hAq (Nat.le_refl _) (bV _).o))))
   refine wpQuiet_nil ?_;rintro _ ⟨y,rfl⟩;have hO:=y.h;clear u0 u1 ba az bV j3 j4 j5 j6 j7 j8 m4 m5 m6 m7 m8 m9 k3 k4 k5 k6 k7 k8;generalize y.w=w3 at hO ⊢;clear y;have cK:=zH (zB aX.o hO);have av:=zH ((hO.block g Hc).trans M.o);have bC:=zH ((hO.block g2 aq).trans cS.o);have cY:=zH (bN.o.keep hO);have c10:=zQ w3 g 10 (.int .i64 cd) av.o;have c11:=zQ w3 g 11 (.float .f64 rl) av.o;have di:=fun W=>zH (hIa cd rl er.o W);clear hO I Hc aq aX M cS bN ax;go_wp2_with fail;refine(di _).o.mono ?_;rintro r w4 ⟨rfl,aD⟩;obtain⟨tx,cF⟩:=zN (resT cd rl);rw[←cF];have dk:=zH cF;have dq:=zB cK.o aD;have cw:=(aD.block g (zL av.o)).trans av.o;have dy:=(aD.block g2 (zL bC.o)).trans bC.o;have dN:=cY.o.keep aD;have cL:=zH dq;have bP:=zH cw;have bD:=zH dy;have cZ:=zH dN;have c1:=zQ w4 g 1 (.int .i64 e) cw;clear aD cF cK av bC cY c10 c11 di dq cw dy dN;have Hm:=(Below.refl w4.heap.size w4).alloc (Nat.le_refl _) (.cells #[.int .i64 e,.int .i64 f] 316);have aW:=zH (zB cL.o Hm);have bg:=zH ((Hm.block g (zL bP.o)).trans bP.o);have b6:=zH ((Hm.block g2 (zL bD.o)).trans bD.o);have bL:=zH (cZ.o.keep Hm);have Y:=zH (heap_alloc_new w4 (.cells #[.int .i64 e,.int .i64 f] 316));clear Hm cL bP bD cZ;go_upto_region 5 with fail;obtain⟨gk,dA⟩:=zN (w4.heap.size);rw[←dA] at Y ⊢;clear dA c1;generalize w4.alloc _=w5 at aW bg b6 bL Y ⊢;have au:=zH (HH.o.keep (Hi.o.trans (aW.o.mono Hi.o.size)));obtain⟨mb,bu,bt,dS⟩:=au.o.came Z.o.1;obtain⟨lx,br⟩:=hMt (e:Int) (f:Int) (WalkArith.wf_i64 (by omega)) (WalkArith.wf_i64 (by omega));have J:=hPn (rho:=rho) (n:=c.stamp) Z.o.2.2;have cX:=zH br;have bR:=zH J;have dx:Below w5.heap.size w5 w5.drew:=Below.drew (Below.refl _ _);have aB:=(Below.refl w5.heap.size w5).alloc (Nat.le_refl _) (.cells #[.string ⟨#[]⟩] 318);have dL:=hAu (w:=w5.drew) true hDb Tryz.underlying97 (hGq _) (bt.fix (P:=fun _=>True) (Fix.same (o:=o) dx) trivial) br J;have dM:=hAu (w:=(w5.alloc (.cells #[.string ⟨#[]⟩] 318)).drew) true hDb Tryz.underlying97 (hGq _) (bt.fix (P:=fun _=>True) (Fix.same (o:=o) (Below.drew aB)) trivial) br J;simp only[if_true] at dL dM;have x9:w5.cell? ⟨b,9,none⟩=some (.map (some mb)):=by rw[←bu];exact au.o.cell 9 rfl
   have x9':(w5.alloc (.cells #[.string ⟨#[]⟩] 318)).cell? ⟨b,9,none⟩=some (.map (some mb)):=by rw[←bu];exact(au.o.keep aB).cell 9 rfl
   have kl:=(zL Y.o);have y0:=zQ w5 gk 0 (.int .i64 e) Y.o;have y1:=zQ w5 gk 1 (.int .i64 f) Y.o;have y0':=(aB.cell (p:=⟨gk,0,none⟩) kl).trans y0;have y1':=(aB.cell (p:=⟨gk,1,none⟩) kl).trans y1;have Hy:=zH bu;have dc:=zH bt;have de:=zH dS;have cP:=zH (show ∀ X wx,wx=(w5.alloc (.cells X 318)).drew→Below w5.heap.size w5 wx from by
    rintro X wx rfl;exact Below.drew ((Below.refl _ _).alloc (Nat.le_refl _) _))
   clear dx aB kl br J bu bt dS;go_cut [12] from 61 (fun s12 wx=>s12=.bool false∧zI (Below w5.heap.size w5 wx))
   case first=>
    go_region_law (fail)
    all_goals
     go_wp2_with fail;go_meet
     case rel=>exact⟨rfl,zH (cP.o _ _ (by with_reducible rfl))⟩
   case rest=>
    obtain⟨rfl,s⟩:=hcut;have Hb:=s.o;have cM:=zH (zB aW.o Hb);have bQ:=zH ((Hb.block g (zL bg.o)).trans bg.o);have bE:=zH ((Hb.block g2 (zL b6.o)).trans b6.o);have d5:=zH (bL.o.keep Hb);have aY:=zH (au.o.keep Hb);have bd:=zH ((Hb.block gk (zL Y.o)).trans Y.o);have aO:=zH (dc.o.fix (P:=fun _=>True) (Fix.same (o:=o) Hb) trivial);clear s Hb x9 x9' y0 y1 y0' y1' dL dM cP aW bg b6 bL au Y dc;go_upto_region 7 with fail;have x9:wc.cell? ⟨b,9,none⟩=some (.map (some mb)):=by rw[←Hy.o];exact aY.o.cell 9 rfl
    have kl:=(zL bd.o);have y0:=zQ wc gk 0 (.int .i64 e) bd.o;have y1:=zQ wc gk 1 (.int .i64 f) bd.o;have x9:=fun y:Bel wc.heap.size wc=>y.cell aY.o.lt x9;have y0:=fun y:Bel wc.heap.size wc=>y.cell kl y0;have y1:=fun y:Bel wc.heap.size wc=>y.cell kl y1;clear kl;refine hAi 7 wc.heap.size wc (by kernel_rfl) (by kernel_rfl) (Below.refl _ _) ?_;simp only[List.take_succ_cons,List.take_zero,List.drop_succ_cons,List.drop_zero];repeat (go_big_quiet_step (fail))
    refine wpQuiet_nil ?_;rintro⟨wy,hy⟩;show wpList _ _ _ _ _ wy;clear x9 y0 y1;obtain⟨w7,eo,dO,aG⟩:=hAs hDb Tryz.underlying97 (aO.o.fix (P:=fun _=>True) (Fix.same (o:=o) hy) trivial) cX.o (.agg #[.string tx]) bR.o;have cG:(Value.agg #[.string tx])=.agg #[.string (resT (hist rho c.stamp).2.1 (hist rho c.stamp).2.2)]:=by rw[dk.o,Hz.o.1,Hz.o.2,Z.o.2.1]
    have aT:MpK 316 w7 mb (cameL rho c.stamp (c.came++[(e,f)])):=by rw[hU4,←cG];exact dO
    have bv:=aO.o.fix (P:=fun _=>True) (Fix.same (o:=o) hy) trivial;have aS:Chg (tg 4 5) o o wy w7:=Chg.grown aG (fun k hk _=>by cases hk;exact de.o);have dt:=(aY.o.keep hy).came_set (aS.fix (P:=fun t=>t≠tg 4 5) (by simp)) Hy.o aT de.o;have L:=zH dt;have dh:=zH ((ChgR.below (k:=5) (o':=o) (Hi.o.trans ((zB cM.o hy).mono Hi.o.size)) (fun _ _=>rfl)).trans (Chg.r (k:=5) (p:=5) aS (by decide)));have aw:=zH (hCc ((hy.block g (zL bQ.o)).trans bQ.o) bv aG);have b7:=zH (hCc ((hy.block g2 (zL bE.o)).trans bE.o) bv aG);have d9:=zH ((d5.o.keep hy).map_grown bv aG);have bO:=zH aT;clear dO aG cG aT bv aS dt hy cM bQ bE d5 aY bd aO cX bR;go_upto_region 9 with fail;clear eo;have bA:=zH (hLq (c.came++[(e,f)]) e);have cJ:=zH (hIj (c.came++[(e,f)]) e);have ew:zI (∀ (k:Nat),k<4→∃ ly,keyOf Tryz.prog 316 (.agg #[.int .i64 e,.int .i64 k])=some ly):=zH (fun k hk=>hMt (e:Int) (k:Int) (WalkArith.wf_i64 (by omega)) (WalkArith.wf_i64 (by omega)));have ez:zI ((Value.agg #[.string (resT (hist rho c.stamp).2.1 (hist rho c.stamp).2.2)])=.agg #[.string tx]):=zH (by rw[dk.o,Hz.o.1,Hz.o.2,Z.o.2.1]);obtain⟨al,Ha⟩:=zN (SW.alike (c.came++[(e,f)]) e);rw[←Ha] at bA cJ;have bK:zI (al 4<2∧c'={ c with came:=c.came++[(e,f)] }∨2≤al 4∧c'={ c with came:=c.came++[(e,f)],acc:=c.acc+1,open_:=false }):=zH (by rw[Ha];exact ak.o);have h0:al 0=0:=by rw[Ha];rfl
    have df:=zH d9.o;obtain⟨_,eP,mm,off,rfl,dR,dQ⟩:=df.o;have da:=zH (And.intro dR dQ);have v1:=zQ w7 g2 1 (.slice (some ⟨mm,off,none⟩) 4 cc) b7.o;have H0:=zH h0;clear Ha dR dQ df h0;go_wp2_with fail;clear v1;go_loopw [13,81] (fun s13 j wr=>∃ k:Nat,k≤4∧s13=.int .i64 ((al k:Nat):Int)∧j=.int .i64 k∧zI (Below w7.heap.size w7 wr)) (fun _ j _=>4 - (intOf j).toNat)
    case atStart=>exact⟨0,by omega,by rw[H0.o];rfl,rfl,zH (Below.refl _ _)⟩
    case round=>
     obtain⟨k,hk,rfl,rfl,s⟩:=hrel;have c9:=bA.o k;have q0:(0:Int)≤(k:Int):=by omega
     by_cases hk4:k<4
     ·have q1:(k:Int)<4:=by omega
      have v0:=(s.o.cell (p:=⟨mm,off+k,none⟩) da.o.1).trans (da.o.2 k hk4);obtain⟨ly,cn⟩:=ew.o k hk4;have ab:=L.o.keep s.o;have aI:=bO.o.fix (P:=fun _=>True) (Fix.same (o:=o) s.o) trivial;have ah:=(s.o.block g (zL aw.o)).trans aw.o;have ag:Below wr.heap.size wr wr.drew:=Below.drew (Below.refl _ _);have bl:=(Below.refl wr.heap.size wr).alloc (Nat.le_refl _) (.cells #[.string ⟨#[]⟩] 318);have x9:wr.cell? ⟨b,9,none⟩=some (.map (some mb)):=by rw[←Hy.o];exact ab.cell 9 rfl
      have x9':(wr.alloc (.cells #[.string ⟨#[]⟩] 318)).cell? ⟨b,9,none⟩=some (.map (some mb)):=by rw[←Hy.o];exact(ab.keep bl).cell 9 rfl
      have e1:=zQ wr g 1 (.int .i64 e) ah;have e1':=(bl.cell (p:=⟨g,1,none⟩) (zL ah)).trans e1;have bh:=zH s.o;have eL:=zH (show ∀ X g' wx,g'=wr.heap.size→wx=(wr.alloc (.cells X 318)).drew→Below wr.heap.size wr wx∧wx.heap[g']?=some (.cells X 318 (0,0)) from by
       rintro X g' wx rfl rfl;exact⟨Below.drew ((Below.refl _ _).alloc (Nat.le_refl _) _),heap_alloc_new wr _⟩)
      have hJ:=cJ.o k;by_cases hin:(e,k)∈c.came++[(e,f)]
      ·rw[if_pos hin] at hJ;obtain⟨l1,l2,dW⟩:=hU5 (rho:=rho) (n:=c.stamp) hin;rw[dW] at aI;have HX:zI (∀ W,Below wr.heap.size wr W→W.cell? ⟨b,9,none⟩=some (.map (some mb))∧W.cell? ⟨g,1,none⟩=some (.int .i64 e)∧(Instr.lookup 97 (.map (some mb)) (.agg #[.int .i64 e,.int .i64 k]) true).run Tryz.prog W=.ok (.tuple #[.agg #[.string tx],.bool true]) W):=zH (fun W Q=>⟨by rw[←Hy.o];exact(ab.keep Q).cell 9 rfl,(Q.cell (p:=⟨g,1,none⟩) (zL ah)).trans e1,by
        have h:=hAm (w:=W) true hDb Tryz.underlying97 (aI.fix (P:=fun _=>True) (Fix.same (o:=o) Q) trivial);simpa only[if_true,ez.o] using h⟩)
       have aM:=zH hJ;clear s cn ab aI ah ag bl hin dW hJ hk c9 x9 x9' e1 e1';go_upto_region 12 with fail;clear v0;go_cut [16,17] from 85 to 106 (fun s16 s17 wx=>s17=.bool true∧∃ g',s16=.pointer (some ⟨g',0,none⟩)∧zI (Below wr.heap.size wr wx∧wx.heap[g']?=some (.cells #[.string tx] 318 (0,0))))
       case first=>
        refine wp_region_held_drew (S:=(fun W=>Below wr.heap.size wr W)) (by kernel_rfl) (Below.drew (Below.refl _ _)) (fun d=>?_);change wpAnyH _ _ _ _ _ 15 (Array.replicate 15 false) _ _;generalize wr.drew=w2 at d ⊢;refine zK 0 86 rfl rfl ?_;try dsimp only;try simp only[zA,zC,zD]
        refine zK 1 87 rfl rfl ?_;try dsimp only;try simp only[zA,zC,zD]
        refine zK 2 88 rfl rfl ?_;try dsimp only;try simp only[zA,zC,zD]
        (refine zT 3 89 rfl rfl (v:=?v89_4) (.inl ⟨by rfl,?y89_4⟩) ?_;case y89_4=>(intro w l;obtain⟨x9,e1,aH⟩:=HX.o w l;clear l;go_simp;try with_reducible rfl));try dsimp only;try simp only[zA,zC,zD]
        refine zK 4 90 rfl rfl ?_;try dsimp only;try simp only[zA,zC,zD]
        (refine zT 5 91 rfl rfl (v:=?v91_6) (.inl ⟨by rfl,?y91_6⟩) ?_;case y91_6=>(intro w l;obtain⟨x9,e1,aH⟩:=HX.o w l;clear l;go_simp;try with_reducible rfl));try dsimp only;try simp only[zA,zC,zD]
        refine zK 6 92 rfl rfl ?_;try dsimp only;try simp only[zA,zC,zD]
        refine zK 7 93 rfl rfl ?_;try dsimp only;try simp only[zA,zC,zD]
        (refine zT 8 94 rfl rfl (v:=?v94_9) (.inl ⟨by rfl,?y94_9⟩) ?_;case y94_9=>(intro w l;obtain⟨x9,e1,aH⟩:=HX.o w l;clear l;go_simp;try with_reducible rfl));try dsimp only;try simp only[zA,zC,zD]
        refine zK 9 85 rfl rfl ?_;try dsimp only;try simp only[zA,zC,zD]
        refine zK 10 95 rfl rfl ?_;try dsimp only;try simp only[zA,zC,zD]
        refine zK 11 96 rfl rfl ?_;try dsimp only;try simp only[zA,zC,zD]
        refine wpAnyH_ready (rs:=[12]) (by kernel_rfl) (by simp) ?_;refine AllReadyH.cons rfl (fun K D=>?_) AllReadyH.nil;go_simp;refine D.out _ _ (d.alloc (Below.size d) _) (fun _=>?_);try dsimp only
        clear D K;refine wpAnyH_ready (rs:=[13]) (by kernel_rfl) (by simp) ?_;refine AllReadyH.cons rfl (fun K D=>?_) AllReadyH.nil;go_simp;have N:=d.alloc (Below.size d) (.cells #[.string tx] 318);refine D.out _ _ N (fun _=>?_);try dsimp only
        clear D K d;obtain⟨g',Hr⟩:=zN (w2.heap.size);rw[←Hr];have C:=heap_alloc_new w2 (.cells #[.string tx] 318);rw[←Hr] at C;clear Hr;generalize w2.alloc _=w9 at N C ⊢;refine zK 14 17 rfl rfl ?_;try dsimp only;try simp only[zA,zC,zD]
        refine wpAnyH_done (by kernel_rfl) ?_ _;have HM:=zH (And.intro N C);clear N C;go_wp2_with fail;go_meet
        case rel=>exact⟨rfl,_,rfl,HM⟩
       case rest=>
        obtain⟨rfl,g',rfl,ae⟩:=hcut;have n0:=zQ wc g' 0 (.string tx) ae.o.2;have bT:=zH (bh.o.trans (ae.o.1.mono bh.o.size));have ei:=bA.o k;have q5:((al k:Nat):Int)≤4:=by omega
        have q6:(0:Int)≤((al k:Nat):Int):=by omega
        clear ae ei;go_wp2_with fail;exact⟨⟨k+1,by omega,by rw[aM.o];go_num,by go_num,bT⟩,by simp[intOf];omega⟩
      ·rw[if_neg hin] at hJ;have HX:zI (∀ W,Below wr.heap.size wr W→W.cell? ⟨b,9,none⟩=some (.map (some mb))∧W.cell? ⟨g,1,none⟩=some (.int .i64 e)∧(Instr.lookup 97 (.map (some mb)) (.agg #[.int .i64 e,.int .i64 k]) true).run Tryz.prog W=.ok (.tuple #[.agg #[.string ⟨#[]⟩],.bool false]) W):=zH (fun W Q=>⟨by rw[←Hy.o];exact(ab.keep Q).cell 9 rfl,(Q.cell (p:=⟨g,1,none⟩) (zL ah)).trans e1,by
        have h:=hAu (w:=W) true hDb Tryz.underlying97 (hGq _) (aI.fix (P:=fun _=>True) (Fix.same (o:=o) Q) trivial) cn (hPn hin);simpa only[if_true] using h⟩)
       have aM:=zH hJ;clear s cn ab aI ah ag bl hin hJ hk c9 x9 x9' e1 e1';go_upto_region 12 with fail;clear v0;go_cut [16,17] from 85 to 106 (fun s16 s17 wx=>s17=.bool false∧zI (Below wr.heap.size wr wx))
       case first=>
        refine wp_region_held_drew (S:=(fun W=>Below wr.heap.size wr W)) (by kernel_rfl) (Below.drew (Below.refl _ _)) (fun d=>?_);change wpAnyH _ _ _ _ _ 15 (Array.replicate 15 false) _ _;generalize wr.drew=w2 at d ⊢;refine zK 0 86 rfl rfl ?_;try dsimp only;try simp only[zA,zC,zD]
        refine zK 1 87 rfl rfl ?_;try dsimp only;try simp only[zA,zC,zD]
        refine zK 2 88 rfl rfl ?_;try dsimp only;try simp only[zA,zC,zD]
        (refine zT 3 89 rfl rfl (v:=?v89_16) (.inl ⟨by rfl,?y89_16⟩) ?_;case y89_16=>(intro w l;obtain⟨x9,e1,aH⟩:=HX.o w l;clear l;go_simp;try with_reducible rfl));try dsimp only;try simp only[zA,zC,zD]
        refine zK 4 90 rfl rfl ?_;try dsimp only;try simp only[zA,zC,zD]
        (refine zT 5 91 rfl rfl (v:=?v91_18) (.inl ⟨by rfl,?y91_18⟩) ?_;case y91_18=>(intro w l;obtain⟨x9,e1,aH⟩:=HX.o w l;clear l;go_simp;try with_reducible rfl));try dsimp only;try simp only[zA,zC,zD]
        refine zK 6 92 rfl rfl ?_;try dsimp only;try simp only[zA,zC,zD]
        refine zK 7 93 rfl rfl ?_;try dsimp only;try simp only[zA,zC,zD]
        (refine zT 8 94 rfl rfl (v:=?v94_21) (.inl ⟨by rfl,?y94_21⟩) ?_;case y94_21=>(intro w l;obtain⟨x9,e1,aH⟩:=HX.o w l;clear l;go_simp;try with_reducible rfl));try dsimp only;try simp only[zA,zC,zD]
        refine zK 9 85 rfl rfl ?_;try dsimp only;try simp only[zA,zC,zD]
        refine zK 10 95 rfl rfl ?_;try dsimp only;try simp only[zA,zC,zD]
        refine zK 11 96 rfl rfl ?_;try dsimp only;try simp only[zA,zC,zD]
        refine wpAnyH_ready (rs:=[12]) (by kernel_rfl) (by simp) ?_;refine AllReadyH.cons rfl (fun K D=>?_) AllReadyH.nil;go_simp;refine D.out _ _ (d.alloc (Below.size d) _) (fun _=>?_);try dsimp only
        clear D K;refine wpAnyH_ready (rs:=[13]) (by kernel_rfl) (by simp) ?_;refine AllReadyH.cons rfl (fun K D=>?_) AllReadyH.nil;go_simp;have N:=d.alloc (Below.size d) (.cells #[.string ⟨#[]⟩] 318);refine D.out _ _ N (fun _=>?_);try dsimp only
        clear D K d;obtain⟨g',Hr⟩:=zN (w2.heap.size);rw[←Hr];have C:=heap_alloc_new w2 (.cells #[.string ⟨#[]⟩] 318);rw[←Hr] at C;clear Hr;generalize w2.alloc _=w9 at N C ⊢;refine zK 14 17 rfl rfl ?_;try dsimp only;try simp only[zA,zC,zD]
        refine wpAnyH_done (by kernel_rfl) ?_ _;have HM:=zH (And.intro N C);clear N C;go_wp2_with fail;go_meet
        case rel=>exact⟨rfl,zH HM.o.1⟩
       case rest=>
        obtain⟨rfl,ae⟩:=hcut;have bT:=zH (bh.o.trans (ae.o.mono bh.o.size));clear ae;go_wp2_with fail;exact⟨⟨k+1,by omega,by rw[aM.o],by go_num,bT⟩,by simp[intOf];omega⟩
     ·obtain rfl:k=4:=by omega
      clear hk4 hk q0;have dB:=(s.o.block g2 (zL b7.o)).trans b7.o;have v1:=zQ wr g2 1 (.slice (some ⟨mm,off,none⟩) 4 cc) dB;have Hx:=zH (L.o.keep s.o);have bU:=zH (dh.o.trans (ChgR.below (k:=5) (o':=o) (s.o.mono (Nat.le_refl _)) (fun _ _=>rfl)));have bS:=zH ((s.o.block g (zL aw.o)).trans aw.o);clear s dB L dh aw b7 d9 bO;rcases bK.o with⟨h2,rfl⟩ | ⟨h2,bp⟩
      ·have q5:¬ (2:Int)≤((al 4:Nat):Int):=by omega
       clear h2 bK ak;go_wp2_with fail;refine(weak4 _).mono ?_;rintro r wx ⟨rfl,rfl⟩;go_wp2_with fail;go_end0;exact⟨rfl,o,z,Hx.o,bU.o⟩
      ·have q5:(2:Int)≤((al 4:Nat):Int):=by omega
       have et:=zH bp;clear h2 bK ak bp;go_wp2_with fail;refine(weak4 _).mono ?_;rintro r wx ⟨rfl,rfl⟩;go_wp2_with fail;clear v1 q5 c9;obtain⟨c6,aa⟩:=zN ({ c with came:=c.came++[(e,f)] }:SCli);rw[←aa] at Hx;have dY:=zH aa;have aU:c6.open_=true:=by rw[aa];exact Z.o.1
       have ar:c6.stamp=n:=by rw[aa];exact Z.o.2.1.symm
       have cf:c6.acc=c.acc:=by rw[aa]
       clear aa;obtain⟨j0,dG,dH,dI,dJ⟩:=info_parts hFd;have bG:=zH dG;have bH:=zH dH;have bI:=zH dI;have bJ:=zH dJ;obtain⟨ac,hI⟩:=zN (c6.acc);have cg:ac≤8:=by have:=T.o.2.2.2.1;have:=T.o.2.2.1;omega
       obtain⟨ys,cE,dX⟩:=Hx.o.acc;have dl:=zH (show ∀ u∈ys++(#[.int .i64 ((ac+1:Nat):Int),.int .i64 1,.int .i64 q.st,.int .i64 q.kind,.string q.key,.float .f64 q.real,.int .i64 0]:Array Value).toList,u.oneCell'=true from by
        intro u hu;rcases List.mem_append.1 hu with hu | hu
        ·exact dX u hu
        ·simp at hu;rcases hu with rfl | rfl | rfl | rfl | rfl | rfl | rfl<;>rfl)
       rw[←hI] at cE;have G:zI (Row wr.drew o (tg 4 6) 95 7 (.slice z.A ac z.ac) ac ys):=zH cE;have aZ:zI (ChgR 5 o o wr wr.drew):=zH (ChgR.below (Below.drew (Below.refl _ _)) (fun _ _=>rfl));have aj:zI (CliAt wr.drew o rho b z c6):=zH (Hx.o.keep (Below.drew (Below.refl _ _)));obtain⟨C7,bi⟩:=zN (cliC rho z c6);have m:wr.drew.heap[b]?=some (.cells C7 99 (0,0)):=by rw[bi];exact Hx.o.blk.1
       have HT:zI (C7[10]?=some (.slice z.A ac z.ac)):=zH (by rw[bi,hI];rfl);have HJ:zI (∀ W:World,W.heap[b]?=some (.cells C7 99 (0,0))→W.cell? ⟨b,3,none⟩=some (.int .i64 1)∧W.cell? ⟨b,4,none⟩=some (.int .i64 q.st)∧W.cell? ⟨b,5,none⟩=some (.int .i64 q.kind)∧W.cell? ⟨b,6,none⟩=some (.string q.key)∧W.cell? ⟨b,7,none⟩=some (.float .f64 q.real)∧W.cell? ⟨b,8,none⟩=some (.int .i64 0)):=zH (fun W Q=>by
        have V:∀ k,W.cell? ⟨b,k,none⟩=wr.cell? ⟨b,k,none⟩:=fun k=>by rw[zR W b k _ _ _ Q,zR wr b k _ _ _ (show wr.heap[b]?=some (.cells C7 _ (0,0)) from m)]
        obtain⟨k3,k4,k5,k6,k7,k8⟩:=Hx.o.req aU (by rw[ar];exact T.o.1);rw[ar,←dg.o] at k4 k5 k6 k7;exact⟨(V 3).trans k3,(V 4).trans k4,(V 5).trans k5,(V 6).trans k6,(V 7).trans k7,(V 8).trans k8⟩)
       have bW:zI (∀ (W:World) (v:Value),(W.cell? ⟨b,3,none⟩=some (.int .i64 1)∧W.cell? ⟨b,4,none⟩=some (.int .i64 q.st)∧W.cell? ⟨b,5,none⟩=some (.int .i64 q.kind)∧W.cell? ⟨b,6,none⟩=some (.string q.key)∧W.cell? ⟨b,7,none⟩=some (.float .f64 q.real)∧W.cell? ⟨b,8,none⟩=some (.int .i64 0))→((W.setCell ⟨b,10,none⟩ v).cell? ⟨b,3,none⟩=some (.int .i64 1)∧(W.setCell ⟨b,10,none⟩ v).cell? ⟨b,4,none⟩=some (.int .i64 q.st)∧(W.setCell ⟨b,10,none⟩ v).cell? ⟨b,5,none⟩=some (.int .i64 q.kind)∧(W.setCell ⟨b,10,none⟩ v).cell? ⟨b,6,none⟩=some (.string q.key)∧(W.setCell ⟨b,10,none⟩ v).cell? ⟨b,7,none⟩=some (.float .f64 q.real)∧(W.setCell ⟨b,10,none⟩ v).cell? ⟨b,8,none⟩=some (.int .i64 0))):=zH (fun W v h=>by
        have V:∀ k,k≠10→(W.setCell ⟨b,10,none⟩ v).cell? ⟨b,k,none⟩=W.cell? ⟨b,k,none⟩:=fun k hk=>World.cell?_setCell_other W ⟨b,10,none⟩ ⟨b,k,none⟩ v (by intro h;injection h with _ h2 _;omega);rw[V 3 (by omega),V 4 (by omega),V 5 (by omega),V 6 (by omega),V 7 (by omega),V 8 (by omega)];exact h)
       have ec:=zH (And.intro aU (And.intro ar cf));have Hu:=zH hI;have L:=zH bi;have e1:IntKind.i64.wrap ((ac:Int)+1)=((ac+1:Nat):Int):=by rw[IntKind.wrap_i64];omega
       clear aU ar cf hI bi cE dX dG dH dI dJ;go_cut [] from 113 (fun wx=>zI (∃ o' VA VC ys',AccAt wx o' rho b z c6 VA VC ys'∧ChgR 5 o o' wr wx))
       case first=>
        refine wp_region_held_drew (S:=(fun W=>W.cell? ⟨b,3,none⟩=some (.int .i64 1)∧W.cell? ⟨b,4,none⟩=some (.int .i64 q.st)∧W.cell? ⟨b,5,none⟩=some (.int .i64 q.kind)∧W.cell? ⟨b,6,none⟩=some (.string q.key)∧W.cell? ⟨b,7,none⟩=some (.float .f64 q.real)∧W.cell? ⟨b,8,none⟩=some (.int .i64 0))) (by kernel_rfl) (HJ.o _ m) (fun d=>?_);change wpAnyH _ _ _ _ _ 21 (Array.replicate 21 false) _ _;generalize wr.drew=w2 at m d G aj aZ ⊢;have x10:w2.cell? ⟨b,10,none⟩=some (.slice z.A ac z.ac):=(zR w2 b 10 _ _ _ m).trans HT.o;refine zK 0 113 rfl rfl ?_;try dsimp only;try simp only[zA,zC,zD]
        refine zK 1 114 rfl rfl ?_;try dsimp only;try simp only[zA,zC,zD]
        refine zK 2 115 rfl rfl ?_;try dsimp only;try simp only[zA,zC,zD]
        refine zK 3 116 rfl rfl ?_;try dsimp only;try simp only[zA,zC,zD]
        refine zK 5 118 rfl rfl ?_;try dsimp only;try simp only[zA,zC,zD]
        refine zK 6 119 rfl rfl ?_;try dsimp only;try simp only[zA,zC,zD]
        refine zK 7 120 rfl rfl ?_;try dsimp only;try simp only[zA,zC,zD]
        refine zK 11 124 rfl rfl ?_;try dsimp only;try simp only[zA,zC,zD]
        refine zK 12 125 rfl rfl ?_;try dsimp only;try simp only[zA,zC,zD]
        refine zK 13 126 rfl rfl ?_;try dsimp only;try simp only[zA,zC,zD]
        (refine zT 14 127 rfl rfl (v:=?v127_11) (.inl ⟨by rfl,?y127_11⟩) ?_;case y127_11=>(intro w l;(try dsimp only at l);obtain⟨k3,k4,k5,k6,k7,k8⟩:=l;go_simp;try with_reducible rfl));try dsimp only;try simp only[zA,zC,zD]
        refine wpAnyH_ready (rs:=[4,8]) (by kernel_rfl) (by simp) ?_;refine AllReadyH.cons rfl (fun K D=>?_) (AllReadyH.cons rfl (fun K D=>?_) AllReadyH.nil)
        ·go_simp;refine D.out _ _ d (fun _=>?_);try dsimp only
         clear D K;refine wpAnyH_ready (rs:=[8]) (by kernel_rfl) (by simp) ?_;refine AllReadyH.cons rfl (fun K D=>?_) AllReadyH.nil;go_simp;refine D.out _ _ d (fun _=>?_);try dsimp only
         clear D K;refine zK 9 122 rfl rfl ?_;try dsimp only;try simp only[zA,zC,zD]
         refine zK 10 123 rfl rfl ?_;try dsimp only;try simp only[zA,zC,zD]
         refine zK 15 128 rfl rfl ?_;try dsimp only;try simp only[zA,zC,zD]
         refine hWy 16 17 129 130 rfl rfl (by kernel_rfl) (by kernel_rfl) rfl rfl rfl rfl 52 95 (.tmp 128) (.tmp 117) rfl rfl o (tg 4 6) j0 _ 7 64 Tryz.underlying52 bG.o bH.o bI.o bJ.o rfl (by decide) (by decide) z.A ac z.ac ys G.o #[.int .i64 ((ac+1:Nat):Int),.int .i64 1,.int .i64 q.st,.int .i64 q.kind,.string q.key,.float .f64 q.real,.int .i64 0] rfl (by simp[Value.oneCell']) (by
          intro a' h;simp[Act.eval,h]) rfl (by simp) (by unfold maxLen;omega) (by omega) (HJ.o _ ((heap_alloc_old _ _ (zL m)).trans m)) (fun v' W i=>HJ.o _ (i.keep (G.o.alloc _) ((heap_alloc_old _ _ (zL m)).trans m) (by decide))) ?_
         intro v2 w5 i B;simp only[zA,zC,zD];obtain⟨VA,VC,rfl⟩:=hAk i.row.1;have F:=i.keep (G.o.alloc _) ((heap_alloc_old w2 (.cells #[.int .i64 ((ac+1:Nat):Int),.int .i64 1,.int .i64 q.st,.int .i64 q.kind,.string q.key,.float .f64 q.real,.int .i64 0] 95) (zL m)).trans m) (by decide);have Hj:=zH i;refine zK 18 131 rfl rfl ?_;try dsimp only;try simp only[zA,zC,zD]
         refine zK 19 132 rfl rfl ?_;try dsimp only;try simp only[zA,zC,zD]
         refine hCl 20 rfl (by kernel_rfl) (by kernel_rfl) rfl rfl 52 (.tmp 132) (.tmp 130) rfl b 10 F (by rw[L.o];rfl) (by kernel_rfl) rfl rfl (bW.o _ _ B) ?_;obtain⟨o9,VB,VD,yz,Hg,Hh⟩:=hKm aj.o m Hj.o F Hu.o L.o G.o dl.o;have HW:=zH (show ∃ o' VA VC ys',AccAt _ o' rho b z c6 VA VC ys'∧ChgR 5 o o' wr _ from⟨o9,VB,VD,yz,Hg,aZ.o.trans Hh⟩);clear Hg Hh;clear i B d F Hj;go_wp2_with fail;go_meet
         case rel=>exact HW
        ·go_simp;refine D.out _ _ d (fun _=>?_);try dsimp only
         clear D K;refine zK 9 122 rfl rfl ?_;try dsimp only;try simp only[zA,zC,zD]
         refine zK 10 123 rfl rfl ?_;try dsimp only;try simp only[zA,zC,zD]
         refine zK 15 128 rfl rfl ?_;try dsimp only;try simp only[zA,zC,zD]
         refine hEs 4 16 17 117 129 130 rfl rfl rfl (by kernel_rfl) (by kernel_rfl) (by kernel_rfl) (by kernel_rfl) (by decide) (by decide) rfl rfl rfl rfl rfl rfl 52 95 (.tmp 116) (.tmp 128) rfl rfl rfl o (tg 4 6) j0 _ 7 64 Tryz.underlying52 bG.o bH.o bI.o bJ.o rfl (by decide) (by decide) b 10 99 _ m z.A ac z.ac ys HT.o G.o (by decide) #[.int .i64 ((ac+1:Nat):Int),.int .i64 1,.int .i64 q.st,.int .i64 q.kind,.string q.key,.float .f64 q.real,.int .i64 0] rfl (by simp[Value.oneCell']) (by
          rintro a' (h | rfl)
          ·simp[Act.eval,h]
          ·rfl) (by
          rintro a' (h | rfl)
          ·simp[Act.eval,h]
          ·rfl) (by simp) (by simp) (by unfold maxLen;omega) (by omega) d (HJ.o _ ((heap_alloc_old _ _ (zL m)).trans m)) (fun v' W i=>HJ.o _ (i.keep (G.o.alloc _) ((heap_alloc_old _ _ (zL m)).trans m) (by decide))) ?_
         intro v2 w5 i B;simp only[zA,zC,zD];obtain⟨VA,VC,rfl⟩:=hAk i.row.1;have F:=i.keep (G.o.alloc _) ((heap_alloc_old w2 (.cells #[.int .i64 ((ac+1:Nat):Int),.int .i64 1,.int .i64 q.st,.int .i64 q.kind,.string q.key,.float .f64 q.real,.int .i64 0] 95) (zL m)).trans m) (by decide);have Hj:=zH i;refine zK 18 131 rfl rfl ?_;try dsimp only;try simp only[zA,zC,zD]
         refine zK 19 132 rfl rfl ?_;try dsimp only;try simp only[zA,zC,zD]
         refine hCl 20 rfl (by kernel_rfl) (by kernel_rfl) rfl rfl 52 (.tmp 132) (.tmp 130) rfl b 10 F (by rw[L.o];rfl) (by kernel_rfl) rfl rfl (bW.o _ _ B) ?_;obtain⟨o9,VB,VD,yz,Hg,Hh⟩:=hKm aj.o m Hj.o F Hu.o L.o G.o dl.o;have HW:=zH (show ∃ o' VA VC ys',AccAt _ o' rho b z c6 VA VC ys'∧ChgR 5 o o' wr _ from⟨o9,VB,VD,yz,Hg,aZ.o.trans Hh⟩);clear Hg Hh;clear i B d F Hj;go_wp2_with fail;go_meet
         case rel=>exact HW
       case rest=>
        obtain⟨o9,VA,VC,zs,am,Hq⟩:=hcut.o;have glr:=(zL bS.o);have cx:o g=7:=ey.o g (by rw[HG.o];exact Nat.le_refl _);have bZ:=(Hq.block g glr (by rw[cx];decide)).trans bS.o;have cy:o9 g=7:=(Hq.tags g glr).trans cx;clear hcut glr cx;obtain⟨i0,dC,dD,dE,dF⟩:=info_parts hHd;have cT:=zH dC;have cU:=zH dD;have cV:=zH dE;have cW:=zH dF;clear dC dD dE dF;have O:wc.drew.heap[g]?=_:=bZ;obtain⟨C8,bj⟩:=zN ((cliC rho z c6).setIfInBounds 10 (.slice VA (c6.acc+1) VC));have hU:wc.drew.heap[b]?=some (.cells C8 99 (0,0)):=by rw[bj];exact am.blk.1
        have dj:zI (C8[11]?=some (.slice z.R ac z.rc)):=zH (by rw[bj,Hu.o];simp[cliC]);have ay:zI (∀ W:World,W.heap[g]?=some (.cells #[.int .i64 8,.int .i64 e,.int .i64 0,.int .i64 0,.int .i64 1,.int .i64 q.st,.int .i64 q.kind,.string q.key,.float .f64 q.real,.int .i64 0,.int .i64 cd,.float .f64 rl,.string ⟨#[]⟩,.slice zz.A1 0 zz.c1,.slice zz.A2 0 zz.c2,.slice zz.A3 0 zz.c3,.slice zz.A4 0 zz.c4] 48 (0,0))→W.cell? ⟨g,10,none⟩=some (.int .i64 cd)∧W.cell? ⟨g,11,none⟩=some (.float .f64 rl)):=zH (fun W Q=>⟨zR W g 10 _ _ _ Q,zR W g 11 _ _ _ Q⟩);have E:=am.res;rw[←Hu.o] at E;have H:zI (Row wc.drew o9 (tg 4 8) 43 2 (.slice z.R ac z.rc) ac (resL rho ac)):=zH E;have aL:zI (AccAt wc.drew o9 rho b z c6 VA VC zs):=zH (am.fix (P:=fun _=>True) (Fix.same (Below.drew (Below.refl _ _))) trivial (fun _=>trivial));have aN:zI (ChgR 5 o9 o9 wc wc.drew):=zH (ChgR.below (Below.drew (Below.refl _ _)) (fun _ _=>rfl));have eu:=zH Hq;have cN:=zH bj;have eM:=zH cy;clear am Hq bj E bZ cy bS HJ bW HT G aj aZ bG bH bI bJ m L;go_wp2_with fail;go_cut [] from 133 (fun wx=>zI (∃ o' RB RD,ResAt wx o' rho b z c6 VA VC zs RB RD (resL rho ac++[.int .i64 cd,.float .f64 rl])∧ChgR 5 o o' wr wx))
        case first=>
         refine wp_region_held_drew (S:=(fun W=>W.cell? ⟨g,10,none⟩=some (.int .i64 cd)∧W.cell? ⟨g,11,none⟩=some (.float .f64 rl))) (by kernel_rfl) (ay.o _ O) (fun d=>?_);change wpAnyH _ _ _ _ _ 12 (Array.replicate 12 false) _ _;generalize wc.drew=w2 at hU O d H aL aN ⊢;refine zK 0 133 rfl rfl ?_;try dsimp only;try simp only[zA,zC,zD]
         refine zK 1 134 rfl rfl ?_;try dsimp only;try simp only[zA,zC,zD]
         refine zK 2 135 rfl rfl ?_;try dsimp only;try simp only[zA,zC,zD]
         refine zK 3 136 rfl rfl ?_;try dsimp only;try simp only[zA,zC,zD]
         refine zK 5 138 rfl rfl ?_;try dsimp only;try simp only[zA,zC,zD]
         (refine zT 6 139 rfl rfl (v:=?v139_6) (.inl ⟨by rfl,?y139_6⟩) ?_;case y139_6=>(intro w l;(try dsimp only at l);obtain⟨m10,m11⟩:=l;go_simp;try with_reducible rfl));try dsimp only;try simp only[zA,zC,zD]
         refine hEs 4 7 8 137 140 141 rfl rfl rfl (by kernel_rfl) (by kernel_rfl) (by kernel_rfl) (by kernel_rfl) (by decide) (by decide) rfl rfl rfl rfl rfl rfl 69 43 (.tmp 136) (.tmp 139) rfl rfl rfl o9 (tg 4 8) i0 _ 2 16 Tryz.underlying69 cT.o cU.o cV.o cW.o rfl (by decide) (by decide) b 11 99 _ hU z.R ac z.rc (resL rho ac) dj.o H.o (by decide) #[.int .i64 cd,.float .f64 rl] rfl (by simp[Value.oneCell']) (by
          rintro a' (h | rfl)
          ·simp[Act.eval,h]
          ·rfl) (by
          rintro a' (h | rfl)
          ·simp[Act.eval,h]
          ·rfl) (by simp) (by simp) (by unfold maxLen;omega) (by omega) d (ay.o _ ((heap_alloc_old _ _ (zL O)).trans O)) (fun v' W i=>ay.o _ (i.keep (H.o.alloc _) ((heap_alloc_old _ _ (zL O)).trans O) (by decide))) ?_
         intro v2 w5 i B;simp only[zA,zC,zD];obtain⟨RA,RC,rfl⟩:=hAk i.row.1;have F:=i.keep (H.o.alloc _) ((heap_alloc_old w2 (.cells #[.int .i64 cd,.float .f64 rl] 43) (zL hU)).trans hU) (by decide);have dz:=i.keep (H.o.alloc _) ((heap_alloc_old w2 (.cells #[.int .i64 cd,.float .f64 rl] 43) (zL O)).trans O) (by decide);refine zK 9 142 rfl rfl ?_;try dsimp only;try simp only[zA,zC,zD]
         refine zK 10 143 rfl rfl ?_;try dsimp only;try simp only[zA,zC,zD]
         refine hCl 11 rfl (by kernel_rfl) (by kernel_rfl) rfl rfl 69 (.tmp 143) (.tmp 141) rfl b 11 F (by rw[cN.o];rfl) (by kernel_rfl) rfl rfl (ay.o _ (setOld dz (by have:=dr;omega))) ?_;have hw:=hT5 aL.o hU i F Hu.o cN.o H.o;clear i B d F dz;obtain⟨o8,RB,RD,Hg,Hh⟩:=hw;have HW:=zH (show ∃ o' RB RD,ResAt _ o' rho b z c6 VA VC zs RB RD (resL rho ac++[.int .i64 cd,.float .f64 rl])∧ChgR 5 o o' wr _ from⟨o8,RB,RD,Hg,(eu.o.trans aN.o).trans Hh⟩);clear Hg Hh;go_wp2_with fail;go_meet
         case rel=>exact HW
        case rest=>
         obtain⟨o8,RB,RD,E,Hq⟩:=hcut.o;have Hk:=zH E;have dZ:=zH Hq;have aV:=E.blk.1;have fz:=fun k=>frozen_of_row wc b k _ _ aV;have Hp:∀ k,k<10→wc.cell? ⟨b,k,none⟩=(cliC rho z c6)[k]?:=fun k hk=>by
          rw[zR wc b k _ _ _ aV,Array.getElem?_setIfInBounds_ne (by omega),Array.getElem?_setIfInBounds_ne (by omega)]
         have x3:=Hp 3 (by omega);have x4:=Hp 4 (by omega);have x5:=Hp 5 (by omega);have x6:=Hp 6 (by omega);have x7:=Hp 7 (by omega);have x8:=Hp 8 (by omega);unfold cliC at x3 x4 x5 x6 x7 x8;simp only[List.getElem?_toArray,List.getElem?_cons_succ,List.getElem?_cons_zero] at x3 x4 x5 x6 x7 x8;have eQ:=fun(w:World) (a:Addr) (k:FloatKind) (n:Nat)=>run_store Tryz.prog w a (.float k n) .plain rfl;clear hcut E Hq aV Hp H aL aN ay dj hU O cT cU cV cW;go_wp2_with fail;go_end0;obtain⟨k1,k2,k3⟩:=Hk.o.blk.sets [(3,.int .i64 0),(4,.int .i64 0),(5,.int .i64 0),(6,.string ⟨#[]⟩),(7,.float .f64 0),(8,.int .i64 0)];rw[hIm] at k1;have ck:=k3.fix (P:=fun t=>t≠tg 4 1) (by simp);have bp:c'={ c6 with acc:=c6.acc+1,open_:=false }:=by rw[et.o,dY.o]
         have hI:c6.acc+1=n:=by
          rw[ec.o.2.2,Z.o.2.1];exact T.o.2.2.2.2.1 Z.o.1
         have E:resL rho ac++[.int .i64 cd,.float .f64 rl]=resL rho (c6.acc+1):=by
          show _=resL rho c6.acc++[.int .i64 ((hist rho (c6.acc+1)).2.1:Int),.float .f64 (hist rho (c6.acc+1)).2.2];rw[Hu.o,hI,←Hz.o.1,←Hz.o.2]
         have dV:=Hk.o.res;rw[E] at dV;refine⟨rfl,o8,{ z with A:=VA,ac:=VC,R:=RB,rc:=RD },?_,(bU.o.trans dZ.o).trans (Chg.r (k:=5) (p:=1) k3 (by decide))⟩;rw[bp];exact⟨k1,Hk.o.ch.fix ck (by decide) (by decide),(fun h=>by cases h),⟨zs,Hk.o.acc.fix ck (by decide),Hk.o.one⟩,dV.fix ck (by decide)⟩
theorem hSi {o:Tags} {rho:Nat→Rq} {b:Nat} {z:CB} {c c':SCli} {f:Nat} (n:ROk rho) {x:SMsg} (m:x.kind=8) (d:x.ok=true) (a:SW.cok c=true) (l:f<4) (p:SW.cReply c f x=some c') (zz:Sls) (w:World) (h:CliAt w o rho b z c) :
  Calls Tryz.prog 196 #[.pointer (some ⟨b,0,none⟩),.int .i64 f,.agg ((x.fm rho).cells zz)] w fun e w'=>e=.returned (.tuple #[])∧∃ o' z',CliAt w' o' rho b z' c'∧ChgR 5 o o' w w':=by
 have g:=Tags.ext_old o w.heap.size 7;refine(hQf n m d a l p zz w (Tags.ext_new o w.heap.size 7) (h.keepT (Below.refl _ _) g)).mono ?_;rintro e w' ⟨i,o',z',j,k⟩;exact⟨i,o',z',j,(ChgR.below (Below.refl _ _) g).trans k⟩
end Go.Proofs.YtlibpcllceepkaaGreat
