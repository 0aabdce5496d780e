/- Joined texts of the claim. No condition. -/
import Derived.Test.YtlibpcllceepkaaGreatB00
namespace Go.Proofs.YtlibpcllceepkaaGreat
open Go.RowKit
set_option maxRecDepth 100000
set_option linter.unusedVariables false
set_option linter.unusedSimpArgs false
set_option maxHeartbeats 16000000
def opOk (k:Int) (key:ByteArray) (r:Nat) (id:Int):Bool:=decide (1≤k) && (decide (0<key.size) && decide (key.size≤16) && decide (id=0)) && (decide (k≤3) || decide (canon r=0))
def opV (k:Int) (key:ByteArray) (r:Nat) (id:Int):Array Value:=#[.int .i64 k,.string key,.float .f64 r,.int .i64 id]
theorem hIf (n lo hi:Int) (w:World):Calls Tryz.prog 107 #[.int .i64 n,.int .i64 lo,.int .i64 hi] w fun e w'=>e=.returned (.bool (decide (lo≤n∧n≤hi)))∧w=w':=by
 by_cases h1:lo≤n
 ·by_cases h2:n≤hi
  ·rw[decide_eq_true ⟨h1,h2⟩];go_enter Tryz.func107,Tryz.ntmps107;go_wp2_with fail;go_ret;exact⟨rfl,rfl⟩
  ·rw[decide_eq_false (fun h=>h2 h.2)];go_enter Tryz.func107,Tryz.ntmps107;go_wp2_with fail;go_ret;exact⟨rfl,rfl⟩
 ·rw[decide_eq_false (fun h=>h1 h.1)];go_enter Tryz.func107,Tryz.ntmps107;go_wp2_with fail;go_ret;exact⟨rfl,rfl⟩
theorem hQ8 (k:Int) (h:k≤0∨k=1∨k=2∨k=3∨k=4∨k=5) (key:ByteArray) (q:key.size≤maxLen) (r:Nat) (id:Int) (w:World) :
  Calls Tryz.prog 108 #[.agg (opV k key r id)] w fun e w'=>e=.returned (.bool (opOk k key r id))∧Below w.heap.size w w':=by
 have m:=fun w=>zH (hD8 r w);unfold opV;have j:Below w.heap.size w (w.alloc (.cells #[.int .i64 k,.string key,.float .f64 r,.int .i64 id] 34)):=(Below.refl _ _).alloc (Nat.le_refl _) _;have i:=zH j;obtain⟨kb,f⟩:=zN ((decide (0<key.size) && decide (key.size≤16) && decide (id=0)));obtain⟨nb,g⟩:=zN (decide (canon r=0));have n:zI (opOk k key r id=(decide (1≤k) && kb && (decide (k≤3) || nb))):=zH (by rw[f,g];rfl);generalize opOk k key r id=res at n ⊢;have d:nb=(((canon r:Nat):Int) == 0):=by rw[g,Bool.eq_iff_iff];simp
 have l:(0:Int)<(key.size:Int)∧(key.size:Int)≤16∧(id == 0)=true∧kb=true∨(key.size:Int)≤0∧kb=false∨(0:Int)<(key.size:Int)∧16<(key.size:Int)∧kb=false∨(0:Int)<(key.size:Int)∧(key.size:Int)≤16∧(id == 0)=false∧kb=false:=by
  rw[f];by_cases a:0<key.size
  ·by_cases b:key.size≤16
   ·by_cases c:id=0
    ·exact .inl ⟨by omega,by omega,by simp[c],by simp[a,b,c]⟩
    ·exact .inr (.inr (.inr ⟨by omega,by omega,by simpa using c,by simp[c]⟩))
   ·exact .inr (.inr (.inl ⟨by omega,by omega,by simp[b]⟩))
  ·exact .inr (.inl ⟨by omega,by simp[a]⟩)
 unfold maxLen at q;clear f g j;generalize canon r=cr at m d;cases nb with
 |true=>
  have p:=d.symm;clear d;rcases h with h | rfl | rfl | rfl | rfl | rfl;all_goals rcases l with⟨a,b,c,rfl⟩ | ⟨a,rfl⟩ | ⟨a,b,rfl⟩ | ⟨a,b,c,rfl⟩
  all_goals
   go_enter Tryz.func108,Tryz.ntmps108;go_wp2_with fail;refine(m _).o.mono ?_;rintro e w1 ⟨rfl,rfl⟩;go_wp2_with fail;go_ret;refine⟨?_,i.o⟩;rw[n.o];first
    |rfl
    |(rw[show decide (1≤k)=false from decide_eq_false (by omega)];rfl)
 |false=>
  have p:=d.symm;clear d;rcases h with h | rfl | rfl | rfl | rfl | rfl;all_goals rcases l with⟨a,b,c,rfl⟩ | ⟨a,rfl⟩ | ⟨a,b,rfl⟩ | ⟨a,b,c,rfl⟩
  all_goals
   go_enter Tryz.func108,Tryz.ntmps108;go_wp2_with fail;refine(m _).o.mono ?_;rintro e w1 ⟨rfl,rfl⟩;go_wp2_with fail;go_ret;refine⟨?_,i.o⟩;rw[n.o];first
    |rfl
    |(rw[show decide (1≤k)=false from decide_eq_false (by omega)];rfl)
end Go.Proofs.YtlibpcllceepkaaGreat
