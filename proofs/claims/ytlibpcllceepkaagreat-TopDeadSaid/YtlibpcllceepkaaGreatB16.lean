/- Joined texts of the claim. No condition. -/
import Derived.Test.YtlibpcllceepkaaGreatB15
namespace Go.Proofs.YtlibpcllceepkaaGreat
open Go.RowKit
set_option maxRecDepth 100000
set_option linter.unusedVariables false
set_option linter.unusedSimpArgs false
set_option maxHeartbeats 16000000
theorem hGk (e:Nat) (T:ByteArray) (f:Nat):∀ (vs:List Nat) (al:List (Option Addr×Nat)),al.length=vs.length→f∈vs→∃ l1 a l2,voteL e T vs al=l1++(.int .i64 f,voteTV e T a)::l2∧a∈al
 |[],_,_,h=>by simp at h
 |v::vs,[],h,_=>by simp at h
 |v::vs,x::al,hl,h=>by
  rcases List.mem_cons.1 h with rfl | h
  ·exact⟨[],x,voteL e T vs al,rfl,List.mem_cons_self ..⟩
  ·obtain⟨l1,a,l2,b,c⟩:=hGk e T f vs al (by simpa using hl) h;exact⟨(.int .i64 v,voteTV e T x)::l1,a,l2,by simp[voteL,b],List.mem_cons_of_mem _ c⟩
def setC (T:ByteArray) (e m:Nat) (SA:Option Addr) (sc:Nat) (MA:Option Addr) (mc:Nat) (LA:Option Addr) (lc:Nat):Array Value:=
 #[.string (if m=0 then⟨#[]⟩ else T),.slice SA m sc,.int .i64 (if m=0 then 0 else(e:Int)+1),.slice MA (if m=0 then 0 else 4) mc,.slice LA m lc]
theorem hEg {fn:Func} {p q:Tmp} (h:fn.results=#[.cell p 122,.tmp q]) (tmps:Array Value) (w:World) (g:Nat) (cs:Array Value) (e:cs.size=5)
  (d:tmps.getD p undef=.pointer (some ⟨g,0,none⟩)) (b:w.heap[g]?=some (.cells cs 122 (0,0))) :
  (results fn tmps).run Tryz.prog w=.ok (.tuple #[.agg cs,tmps.getD q undef]) w:=by
 have a:tmps[p]?.getD undef=.pointer (some ⟨g,0,none⟩):=by simpa using d
 have c:=run_loadVar_row (P:=Tryz.prog) w g 122 122 cs (0,0) _ b Tryz.underlying122 rfl (by rw[e];kernel_rfl);simp[results,h,a,asAddr,c]
theorem hNo (w:World) (g:Nat) (T:TypeId) (z0 z1 z2 z3 z4 a0 a1 a2 a3 a4:Value) (h:w.heap[g]?=some (.cells #[z0,z1,z2,z3,z4] T (0,0))) :
  (((((w.setCell ⟨g,0,none⟩ a0).setCell ⟨g,1,none⟩ a1).setCell ⟨g,2,none⟩ a2).setCell ⟨g,3,none⟩ a3).setCell ⟨g,4,none⟩ a4).heap[g]?=some (.cells #[a0,a1,a2,a3,a4] T (0,0))
  ∧ w.grownBy (((((w.setCell ⟨g,0,none⟩ a0).setCell ⟨g,1,none⟩ a1).setCell ⟨g,2,none⟩ a2).setCell ⟨g,3,none⟩ a3).setCell ⟨g,4,none⟩ a4) (some g):=by
 have a:=heap_setCell_same w g 0 _ _ a0 h;have b:=heap_setCell_same _ g 1 _ _ a1 a;have c:=heap_setCell_same _ g 2 _ _ a2 b;have d:=heap_setCell_same _ g 3 _ _ a3 c;have e:=heap_setCell_same _ g 4 _ _ a4 d;refine⟨e.trans (by rfl),?_⟩;exact hAb (hAb (hAb (hAb (hAb (hAa (Below.refl _ _) _) (p:=⟨g,0,none⟩) (.inl rfl) _) (p:=⟨g,1,none⟩) (.inl rfl) _) (p:=⟨g,2,none⟩) (.inl rfl) _) (p:=⟨g,3,none⟩) (.inl rfl) _) (p:=⟨g,4,none⟩) (.inl rfl) _
theorem hHi {w:World} {o:Tags} {i b vm cm e:Nat} {T:ByteArray} {vs:List Nat} (h:TalAt w o i b vm cm e T vs):∃ A c,w.cell? ⟨b,0,none⟩=some (.int .i64 e)∧w.cell? ⟨b,1,none⟩=some (.slice A 4 c)∧w.cell? ⟨b,2,none⟩=some (.map (some vm))∧w.cell? ⟨b,3,none⟩=some (.map (some cm))∧Mem w A c:=by
 obtain⟨A,c,a,d⟩:=h.blk;exact⟨A,c,(zR w b 0 _ _ _ a.1).trans rfl,(zR w b 1 _ _ _ a.1).trans rfl,(zR w b 2 _ _ _ a.1).trans rfl,(zR w b 3 _ _ _ a.1).trans rfl,d.1⟩
theorem hRa (b vm cm i:Nat) (o:Tags) (e:Nat) (T:ByteArray) (Hm:T.size≤60000) (vs:List Nat) (hv:vs.length<3) (w:World) (h:TalAt w o i b vm cm e T vs) :
  Calls Tryz.prog 284 #[.pointer (some ⟨b,0,none⟩)] w fun r w'=>r=.returned (.tuple #[.agg #[.string ⟨#[]⟩,.slice none 0 0,.int .i64 0,.slice none 0 0,.slice none 0 0],.bool false])∧Below w.heap.size w w':=by
 obtain⟨A,c,k0,k1,k2,k3,J⟩:=hHi h;have u:=h.lt;obtain⟨al,G,y,V⟩:=h.vt;have X:=zH h.ct;have HQ:=fun w=>zH (quorum4 w);have M:=zH (And.intro G y);have O:=zH (show vm<w.heap.size∧cm<w.heap.size from⟨y.lt,h.ct.lt⟩);have U:=zH (And.intro k0 (And.intro k1 (And.intro k2 k3)));obtain⟨B2,off2,rfl,Hc,P⟩:=J.2.2;have Hl:c≤9223372036854775807:=J.2.1;have W:=zH P;have F:zI (∀ a,voteTV e T a=.agg #[.string (stateT (4*(e+1)) T),.string (confT (e+1)),.string T,.slice a.1 4 a.2]):=zH (fun _=>rfl);have E:zI (∀ n,countL e T n=if n=0 then [] else [(.agg #[.string (stateT (4*(e+1)) T),.string (confT (e+1))],.int .i64 n)]):=zH (fun _=>rfl);generalize stateT (4*(e+1)) T=S at F E;generalize confT (e+1)=C at F E;obtain⟨a1,a2,hz,Q⟩:=hAp w (.cells #[.string ⟨#[]⟩,.slice none 0 0,.int .i64 0,.slice none 0 0,.slice none 0 0] 122) (.cells #[.string ⟨#[]⟩,.slice none 0 0,.int .i64 0,.slice none 0 0,.slice none 0 0] 122);have K:=zH a1;have L:=zH a2;have R:=zH Q;clear h G y V J P k0 k2 k3 a1 a2 Q;go_enter Tryz.func284,Tryz.ntmps284;go_wp2_with fail;clear k1;generalize World.alloc _ _=w0 at R K L hz ⊢;go_loopw [6,7,8,18] (fun _ _ _ j wr=>∃ k:Nat,k≤4∧j=.int .i64 k∧zI (Below w0.heap.size w0 wr)) (fun _ _ _ j _=>4 - (intOf j).toNat)
 case atStart=>exact⟨0,by omega,rfl,zH (Below.refl _ _)⟩
 case round=>
  obtain⟨k,hk,rfl,l⟩:=hrel;have q0:(0:Int)≤(k:Int):=by omega
  have d:=R.o.trans (l.o.mono R.o.size);by_cases hk4:k<4
  ·have q1:(k:Int)<4:=by omega
   have B:=(d.cell (p:=⟨B2,off2+k,none⟩) Hc).trans (W.o k hk4);have d1:=(d.cell (p:=⟨b,1,none⟩) u).trans U.o.2.1;have d2:=(d.cell (p:=⟨b,2,none⟩) u).trans U.o.2.2.1;have d3:=(d.cell (p:=⟨b,3,none⟩) u).trans U.o.2.2.2;have x:=M.o.2.move (d.block _ O.o.1);have g:=X.o.move (d.block _ O.o.2);rw[E.o] at g;have H:b<wr.heap.size:=Nat.lt_of_lt_of_le u d.size;by_cases hkv:k∈vs
   ·obtain⟨l1,a,l2,hl,ha⟩:=hGk e T k vs al M.o.1 hkv;rw[hl,F.o] at x;have v:=hAm (w:=wr) true hAh Tryz.underlying231 x;simp only[if_true] at v;have Hg:vs.length≠0:=fun e=>by rw[List.length_eq_zero_iff.1 e] at hkv;simp at hkv
    rw[if_neg Hg] at g;have Y:=zH g;have q3:((vs.length:Nat):Int)<3:=by omega
    have q:=zH (l.o.alloc l.o.size (.cells #[.string S,.string C,.string T,.slice a.1 4 a.2] 370));have z:=zH (heap_alloc_new wr (.cells #[.string S,.string C,.string T,.slice a.1 4 a.2] 370));have D:=zH (g.move (heap_alloc_old wr (.cells #[.string S,.string C,.string T,.slice a.1 4 a.2] 370) g.lt));clear x g hl ha l d Y;go_wp2_with fail;have d1':=(World.cell?_alloc_old wr (.cells #[.string S,.string C,.string T,.slice a.1 4 a.2] 370) ⟨b,1,none⟩ (Nat.ne_of_lt H)).trans d1;have d3':=(World.cell?_alloc_old wr (.cells #[.string S,.string C,.string T,.slice a.1 4 a.2] 370) ⟨b,3,none⟩ (Nat.ne_of_lt H)).trans d3;clear v B d1 d2 d3;generalize wr.alloc _=w1 at q z D d1' d3' ⊢;have x0:=(zR w1 wr.heap.size 0 _ _ _ z.o).trans (show _=some (Value.string S) from rfl);have x1:=(zR w1 wr.heap.size 1 _ _ _ z.o).trans (show _=some (Value.string C) from rfl);have I:=fun m=>hAm (w:=w1.drewN m) (l1:=[]) (l2:=[]) false hBl Tryz.underlying232 (show MpK 368 (w1.drewN m) cm _ from D.o);simp only[Bool.false_eq_true,if_false] at I;go_quiet ((go_at_call 208;exact Calls.quiet_of_same ((HQ _).o.mono fun _ _ h=>⟨h.1,h.2.symm⟩)))
    have t:=zH (hAc q.o nq);clear x0 x1 I d1' d3' q z D;generalize w1.drewN nq=w2 at t ⊢;go_wp2_with fail;exact⟨⟨k+1,by omega,by go_num,t⟩,by simp[intOf];omega⟩
   ·have v:=hAu (w:=wr) true hAh Tryz.underlying231 (hFr wr) x (hCv k (by omega)) (hFo e T k vs al hkv);simp only[if_true] at v;have q:=zH (l.o.alloc l.o.size (.cells #[.string ⟨#[]⟩,.string ⟨#[]⟩,.string ⟨#[]⟩,.slice none 0 0] 370));clear x g l d;go_wp2_with fail;clear v B d1 d2 d3;generalize wr.alloc _=w1 at q ⊢;go_quiet (fail)
    have t:=zH (hAc q.o nq);generalize w1.drewN nq=w2 at t ⊢;go_wp2_with fail;exact⟨⟨k+1,by omega,by go_num,t⟩,by simp[intOf];omega⟩
  ·obtain rfl:k=4:=by omega
   clear hk4;have f:=(l.o.block _ (by omega)).trans K.o;have s:=(l.o.block _ hz).trans L.o;have Z:=zH f;have x0:=zQ wr (w.heap.size+1) 0 (.string ⟨#[]⟩) s;have x1:=zQ wr (w.heap.size+1) 1 (.slice none 0 0) s;have x2:=zQ wr (w.heap.size+1) 2 (.int .i64 0) s;have x3:=zQ wr (w.heap.size+1) 3 (.slice none 0 0) s;have x4:=zQ wr (w.heap.size+1) 4 (.slice none 0 0) s;have y0:=(zR wr w.heap.size 0 _ _ _ f).trans (show _=some (Value.string ⟨#[]⟩) from rfl);have y1:=(zR wr w.heap.size 1 _ _ _ f).trans (show _=some (Value.slice none 0 0) from rfl);have y2:=(zR wr w.heap.size 2 _ _ _ f).trans (show _=some (Value.int .i64 0) from rfl);have y3:=(zR wr w.heap.size 3 _ _ _ f).trans (show _=some (Value.slice none 0 0) from rfl);have y4:=(zR wr w.heap.size 4 _ _ _ f).trans (show _=some (Value.slice none 0 0) from rfl);have yf:=fun k=>frozen_of_row wr w.heap.size k _ _ f;have N:=zH d;clear f s l d;go_wp2_with fail;clear u;have Hk:wr.drew.cell? ⟨w.heap.size+1,0,none⟩=some (.string ⟨#[]⟩)∧wr.drew.cell? ⟨w.heap.size+1,1,none⟩=some (.slice none 0 0):=⟨x0,x1⟩
   go_region
   all_goals
    obtain⟨t1,t2⟩:=hNo wr.drew w.heap.size _ _ _ _ _ _ (.string ⟨#[]⟩) (.slice none 0 0) (.int .i64 0) (.slice none 0 0) (.slice none 0 0) (show wr.drew.heap[w.heap.size]?=_ from Z.o);have Ha:=zH t1;have Hb:=zH (N.o.trans (Below.trans (⟨rfl,rfl,rfl,Nat.le_refl _,fun _ _=>rfl⟩:Below w.heap.size wr wr.drew) (hAj t2 N.o.size (Nat.le_refl _))));go_wp2_with fail;exact bodyPost_ret (hEg rfl _ _ w.heap.size _ rfl (by rfl) Ha.o) rfl ⟨rfl,Hb.o⟩
end Go.Proofs.YtlibpcllceepkaaGreat
