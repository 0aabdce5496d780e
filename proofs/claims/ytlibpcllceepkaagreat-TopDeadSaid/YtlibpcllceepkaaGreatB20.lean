/- Joined texts of the claim. No condition. -/
import Derived.Test.YtlibpcllceepkaaGreatB19
import Derived.Deep.RegionLaw
namespace Go.Proofs.YtlibpcllceepkaaGreat
open Go.RowKit
set_option maxRecDepth 100000
set_option linter.unusedVariables false
set_option linter.unusedSimpArgs false
set_option maxHeartbeats 16000000
def setL:Array Value→Nat→List Value→Array Value
 |cs,_,[]=>cs
 |cs,o,v::r=>setL (cs.setIfInBounds o v) (o+1) r
theorem hBo:∀ (vs:List Value) (o:Nat) (w:World) (b:Nat) (cs:Array Value) (T:TypeId),w.heap[b]?=some (.cells cs T (0,0))→(w.setCells b o vs).heap[b]?=some (.cells (setL cs o vs) T (0,0))
 |[],_,_,_,_,_,h=>h
 |v::r,o,w,b,cs,T,h=>hBo r (o+1) _ b _ T (heap_setCell_same w b o _ _ v h)
theorem hGy {o o':Tags} {w w':World} {rho:Nat→Rq} {b:Nat} {z:RB} {r:SRep} {be m:Nat} (h:RepF w o rho b z r be m) {ms':Nat→Nat} {L:SLog} (c:LogAt w' o' (tg r.id 3) z.lb ms' rho L) (hc:Chg (tg r.id 3) o o' w w') (a:L.e=r.log.e) (f:L.v≤15) :
  RepF w' o' rho b { z with ms:=ms' } { r with log:=L } be m∧ChgR (r.id+1) o o' w w':=by
 obtain⟨e,v,sl⟩:=L;have a:e=r.log.e:=a;subst a;exact⟨h.upd1 3 hc { h.num with v:=f } (fun p d=>by rcases p with _|_|_|_|_|_|_|_|_|_|_|_|_|_|p<;>first | exact absurd (by decide) d | rfl) c,hc.r (by decide)⟩
theorem hM9 {o o':Tags} {w w':World} {rho:Nat→Rq} {b:Nat} {z:RB} {r:SRep} {be m d:Nat} (h:RepF w o rho b z r be m) (c:LedAt w' o' (tg r.id 6) z.bk z.kb rho be d) (hc:Chg (tg r.id 6) o o' w w') (a:d≤8) :
  RepF w' o' rho b z { r with d:=d } be m∧ChgR (r.id+1) o o' w w':=
 ⟨h.upd1 6 hc { h.num with d:=a } (fun p e=>by rcases p with _|_|_|_|_|_|_|_|_|_|_|_|_|_|p<;>first | exact absurd (by decide) e | rfl) c,hc.r (by decide)⟩
theorem RepF.log {o:Tags} {w:World} {rho:Nat→Rq} {b:Nat} {z:RB} {r:SRep} {be m:Nat} (h:RepF w o rho b z r be m):LogAt w o (tg r.id 3) z.lb z.ms rho r.log:=h.part 3
theorem RepF.tal {o:Tags} {w:World} {rho:Nat→Rq} {b:Nat} {z:RB} {r:SRep} {be m:Nat} (h:RepF w o rho b z r be m):TalAt w o (tg r.id 4) z.tl z.vm z.cm r.log.e (ledT rho (r.log.e+1) (4*(r.log.e+1))) r.votes:=h.part 4
theorem RepF.chg {o:Tags} {w:World} {rho:Nat→Rq} {b:Nat} {z:RB} {r:SRep} {be m:Nat} (h:RepF w o rho b z r be m):MpK 3 w z.mb (chL r.log.e r.changes)∧o z.mb=tg r.id 5:=h.part 5
theorem RepF.book {o:Tags} {w:World} {rho:Nat→Rq} {b:Nat} {z:RB} {r:SRep} {be m:Nat} (h:RepF w o rho b z r be m):LedAt w o (tg r.id 6) z.bk z.kb rho be r.d:=h.part 6
theorem RepF.chain {o:Tags} {w:World} {rho:Nat→Rq} {b:Nat} {z:RB} {r:SRep} {be m:Nat} (h:RepF w o rho b z r be m):TrAt w o (tg r.id 7) z.ch (chainL r.chain):=h.part 7
theorem hCe (i p:Nat):tg i p≠0:=by unfold tg;omega
theorem hNi {o:Tags} {w:World} {rho:Nat→Rq} {b:Nat} {z:RB} {r:SRep} {be m:Nat} (n:Nat) (f:n≤8) (h:RepF w o rho b z r be m) :
  RepF (w.setCells b 13 (wt8 rho n).toList) o rho b z { r with waiting:=n } be m∧ChgR (r.id+1) o o w (w.setCells b 13 (wt8 rho n).toList)∧w.grownBy (w.setCells b 13 (wt8 rho n).toList) (some b):=by
 obtain⟨_,_,_,c⟩:=hAx (wt8 rho n).toList 13 w b _ _ h.blk.1;have hc:Chg (tg r.id 1) o o w (w.setCells b 13 (wt8 rho n).toList):=Chg.grown c (fun k d _=>by cases d;exact h.blk.2);refine⟨h.upd1 1 hc { h.num with wait:=f } (fun p g=>by rcases p with _|_|_|_|_|_|_|_|_|_|_|_|_|_|p<;>first | exact absurd (by decide) g | rfl) ⟨?_,h.blk.2⟩,hc.r (by decide),c⟩;have e:setL (repC rho z r) 13 (wt8 rho n).toList=repC rho z { r with waiting:=n }:=by kernel_rfl
 have a:=hBo (wt8 rho n).toList 13 w b _ _ h.blk.1;rw[e] at a;exact a
theorem hKl {o:Tags} {w:World} {rho:Nat→Rq} {b:Nat} {z:RB} {r:SRep} {be m:Nat} (k:Nat) (c:k+8≤88) (h:RepF w o rho b z r be m):w.there b k 8:=fun j a=>⟨by
 rw[zR w b (k+j) _ _ _ h.blk.1,Array.getElem?_eq_getElem (by show k+j<88;omega)];rfl,h.fz _⟩
end Go.Proofs.YtlibpcllceepkaaGreat
