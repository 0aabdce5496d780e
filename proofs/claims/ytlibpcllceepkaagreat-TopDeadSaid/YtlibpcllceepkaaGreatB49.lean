/- Joined texts of the claim. No condition. -/
import Derived.Test.YtlibpcllceepkaaGreatB23
namespace Go.Proofs.YtlibpcllceepkaaGreat
open Go.RowKit
set_option maxRecDepth 100000
set_option linter.unusedVariables false
set_option linter.unusedSimpArgs false
set_option maxHeartbeats 16000000
theorem hQe {o:Tags} {rho:Nat→Rq} {b:Nat} {z:CB} {c:SCli} (y:c.stamp≤8) (k:Int) (K:k≤5) (key:ByteArray) (B:key.size≤maxLen) (re:Nat) (id:Int) (x:opOk k key re id=false) (w:World) (h:CliAt w o rho b z c) :
  Calls Tryz.prog 59 #[.pointer (some ⟨b,0,none⟩),.agg #[.int .i64 k,.string key,.float .f64 re,.int .i64 id]] w fun e w'=>e=.returned (.tuple #[.slice none 0 0,.int .i64 1])∧Below w.heap.size w w':=by
 have p:=fun W=>hKn (c.stamp+1) (by omega) (by omega) k (by omega) key B re id W;rw[x] at p;have i:=fun W=>zH (p W);unfold six at i;obtain⟨st,d⟩:=zN (((c.stamp+1:Nat):Int):Int);rw[←d] at i;have G:=zH d;have J:=zH h;have s:=(Below.refl w.heap.size w).alloc (Nat.le_refl _) (.cells #[.int .i64 k,.string key,.float .f64 re,.int .i64 id] 34);have H:=heap_alloc_new w (.cells #[.int .i64 k,.string key,.float .f64 re,.int .i64 id] 34);have l:=zH s;have f:=zH H;have L:=fun(w:World) (a:Addr) (k:FloatKind) (n:Nat)=>run_store Tryz.prog w a (.float k n) .plain rfl;have F:=zH y;clear h s H p K x B y d;go_enter Tryz.func59,Tryz.ntmps59;go_wp2_with fail;obtain⟨g,I⟩:=zN (w.heap.size);rw[←I] at f ⊢;clear I;generalize w.alloc _=w1 at l f ⊢;have q:=zH (J.o.keep l.o);have gl:=(zL f.o);have C:∀ W,Below w1.heap.size w1 W→W.cell? ⟨b,0,none⟩=some (.int .i64 1)∧W.cell? ⟨b,2,none⟩=some (.int .i64 c.stamp)∧W.cell? ⟨g,0,none⟩=some (.int .i64 k)∧W.cell? ⟨g,1,none⟩=some (.string key)∧W.cell? ⟨g,2,none⟩=some (.float .f64 re)∧W.cell? ⟨g,3,none⟩=some (.int .i64 id):=fun W j=>
  ⟨(q.o.keep j).cell 0 rfl,(q.o.keep j).cell 2 rfl,zR W g 0 _ _ _ ((j.block g gl).trans f.o),zR W g 1 _ _ _ ((j.block g gl).trans f.o),zR W g 2 _ _ _ ((j.block g gl).trans f.o),zR W g 3 _ _ _ ((j.block g gl).trans f.o)⟩
 have m:=(Below.refl w1.heap.size w1).alloc (Nat.le_refl _) (.cells #[.int .i64 0,.int .i64 0,.int .i64 0,.string ⟨#[]⟩,.float .f64 0,.int .i64 0] 36);obtain⟨a0,a1,a2,a3,a4,a5⟩:=C _ (Below.refl _ _);obtain⟨b0,b1,b2,b3,b4,b5⟩:=C _ m;have e1:IntKind.i64.wrap ((c.stamp:Int)+1)=st:=by rw[IntKind.wrap_i64,G.o];have:=F.o;omega
 have r:=zH (show ∀ g2 wx,g2=w1.heap.size→wx=(w1.alloc (.cells #[.int .i64 1,.int .i64 st,.int .i64 k,.string key,.float .f64 re,.int .i64 id] 36)).drew→Below w1.heap.size w1 wx∧wx.heap[g2]?=some (.cells (six 1 st k key re id) 36 (0,0)) from by
  rintro g2 wx rfl rfl;exact⟨Below.drew ((Below.refl _ _).alloc (Nat.le_refl _) _),heap_alloc_new w1 _⟩)
 clear C m;go_cut [6] from 7 (fun s6 wx=>∃ g2,s6=.pointer (some ⟨g2,0,none⟩)∧zI (Below w1.heap.size w1 wx∧wx.heap[g2]?=some (.cells (six 1 st k key re id) 36 (0,0))))
 case first=>
  go_region_law (fail)
  all_goals
   go_wp2_with fail;go_meet
   case rel=>exact⟨_,rfl,zH (r.o _ _ (by with_reducible rfl) (by with_reducible rfl))⟩
 case rest=>
  obtain⟨g2,rfl,d⟩:=hcut;obtain⟨u,v⟩:=d.o;have E:=zH (zB l.o u);obtain⟨z0,z1,z2,z3,z4,z5⟩:=hAf v;clear d u v a0 a1 a2 a3 a4 a5 b0 b1 b2 b3 b4 b5 r gl e1;go_wp2_with fail;refine(i _).o.mono ?_;rintro e w3 ⟨rfl,t⟩;have D:=zH (zB E.o t);clear z0 z1 z2 z3 z4 z5 t i;go_wp2_with fail;go_ret2;exact⟨rfl,D.o⟩
end Go.Proofs.YtlibpcllceepkaaGreat
