/- A controller in memory: its box and the three lists that it owns. -/
import Derived.Test.YtmaegpblaihepaaFx0
import Derived.Test.YtmaegpblaihepaaWc
import Derived.Test.YtmaegpblaihepaaWq
namespace Go.Proofs.Ytmaegpblaihepaa.F
open Go.RowKit Go.Proofs.YtmaegpblaihepaaW.PrintWords Go.Proofs.YtmaegpblaihepaaW.PrintLast Go.Proofs.YtmaegpblaihepaaW.PrintMore
set_option linter.unusedVariables false
set_option linter.unusedSimpArgs false
section
variable {P : Program} {ops : Array Oper} {Q : Exit → Act → World → Prop}
/-- new memory in a region that draws its order -/
theorem box_value {oi : Oper} {N : Option Tmp} {a : Act} {w : World} {cs : Array Value} {t : TypeId} {K : Act → World → Prop} (hw : Region.wanted oi (yielded ops a.tmps) = true) (hN : oi.dst = N) (hrun : (execOp a.eval oi).run P w = .ok (.value (.pointer (some ⟨w.heap.size, 0, none⟩))) (w.alloc (.cells cs t (0, 0))))
    (h : ∀ g, g = w.heap.size → ∀ w1, w1.heap[g]? = some (.cells cs t (0, 0)) → Below w.heap.size w w1 → K (a.put N (.pointer (some ⟨g, 0, none⟩))) w1) : if Region.wanted oi (yielded ops a.tmps) = true then Oper.wp P oi a w K Q else K (a.put N undef) w :=
  value_ hw hN hrun (h _ rfl _ (blk_new w _) (below_alloc (Below.refl _ _) _))
end
theorem results_c1 {P : Program} {fn : Func} {p : Tmp} {ty : TypeId} (h : fn.results = #[.cell p ty]) (tmps : Array Value) (w : World) (g : Nat) (t : TypeId) (cs : Array Value) (fr : Nat × Nat) (d : TypeDesc)
    (hp : tmps.getD p undef = .pointer (some ⟨g, 0, none⟩)) (hg : w.heap[g]? = some (.cells cs t fr))
    (hu : P.underlying ty = some d) (hd : (match d with | .struct _ | .array _ _ => true | _ => false) = true) (hi : (P.info? ty).map (·.size) = some cs.size) :
    (results fn tmps).run P w = .ok (.agg cs) w := by
  have hp' : tmps[p]?.getD undef = .pointer (some ⟨g, 0, none⟩) := by simpa using hp
  simp [results, h, hp', asAddr, run_loadVar_row w g t ty cs fr d hg hu hd hi]
structure CS where
  ms : List S55
  sp : Int
  ac : Int
  je : Int
  ix : Int
  pt : Int
  pl : List Int
  at_ : Int
  bra : Bool
  held : Bool
  brk : Bool
  pcs : List S55
  lx : Int
  ly : Int
  lz : Int
def CtlC (vM vP vQ : Value) (s : CS) : Array Value := #[vM, .int .i64 s.sp, .int .i64 s.ac, .int .i64 s.je, .int .i64 s.ix, .int .i64 s.pt, vP, .int .i64 s.at_, .bool s.bra, .bool s.held, .bool s.brk, vQ, .int .i64 s.lx, .int .i64 s.ly, .int .i64 s.lz]
/-- box g of w is a controller in state s; it and its lists lie at B or above -/
def Ctl (B : Nat) (w : World) (g : Nat) (s : CS) : Prop := B ≤ g ∧ ∃ vM vP vQ, w.heap[g]? = some (.cells (CtlC vM vP vQ s) 59 (0, 0)) ∧ Kd.R k55 55 w B (fun k => k ≠ g) vM s.ms ∧ Kd.R (Kd.int .i64) 2 w B (fun k => k ≠ g) vP s.pl ∧ Kd.R k55 55 w B (fun k => k ≠ g ∧ some k ≠ vM.ownBlock) vQ s.pcs
theorem Ctl.below {B g : Nat} {w w1 : World} {s : CS} (h : Ctl B w g s) (hb : Below w.heap.size w w1) : Ctl B w1 g s := by
  obtain ⟨hg, vM, vP, vQ, hx, hM, hP, hQ⟩ := h
  exact ⟨hg, vM, vP, vQ, blk_below hx hb, Kd.R_below hM hb, Kd.R_below hP hb, Kd.R_below hQ hb⟩
theorem Ctl.le {B g : Nat} {w : World} {s : CS} (h : Ctl B w g s) : B ≤ w.heap.size := by
  obtain ⟨hg, vM, vP, vQ, hx, _⟩ := h
  have := blk_lt hx
  omega
/-- what a walk begins with -/
theorem Ctl.open_ {B g : Nat} {w : World} {s : CS} (h : Ctl B w g s) : B ≤ g ∧ ∃ AM cM AP cP AQ cQ, w.heap[g]? = some (.cells #[.slice AM s.ms.length cM, .int .i64 s.sp, .int .i64 s.ac, .int .i64 s.je, .int .i64 s.ix, .int .i64 s.pt, .slice AP s.pl.length cP, .int .i64 s.at_, .bool s.bra, .bool s.held, .bool s.brk, .slice AQ s.pcs.length cQ, .int .i64 s.lx, .int .i64 s.ly, .int .i64 s.lz] 59 (0, 0)) ∧
    s.ms.length ≤ cM ∧ s.pl.length ≤ cP ∧ s.pcs.length ≤ cQ ∧ Kd.R k55 55 w B (fun k => k ≠ g) (.slice AM s.ms.length cM) s.ms ∧ Kd.R (Kd.int .i64) 2 w B (fun k => k ≠ g) (.slice AP s.pl.length cP) s.pl ∧ Kd.R k55 55 w B (fun k => k ≠ g ∧ some k ≠ (Value.slice AM s.ms.length cM).ownBlock) (.slice AQ s.pcs.length cQ) s.pcs := by
  obtain ⟨hg, vM, vP, vQ, hx, hM, hP, hQ⟩ := h
  obtain ⟨AM, cM, rfl, h1, _⟩ := Kd.R_reads hM
  obtain ⟨AP, cP, rfl, h2, _⟩ := Kd.R_reads hP
  obtain ⟨AQ, cQ, rfl, h3, _⟩ := Kd.R_reads hQ
  exact ⟨hg, AM, cM, AP, cP, AQ, cQ, hx, h1, h2, h3, hM, hP, hQ⟩
/-- a store of a scalar into the box -/
theorem Ctl.set_ {B g : Nat} {w : World} {s s' : CS} (h : Ctl B w g s) (i : Nat) (u : Value) (hc : ∀ vM vP vQ, (CtlC vM vP vQ s).setIfInBounds i u = CtlC vM vP vQ s') (h1 : s'.ms = s.ms) (h2 : s'.pl = s.pl) (h3 : s'.pcs = s.pcs) : Ctl B (w.setCell ⟨g, i, none⟩ u) g s' := by
  obtain ⟨hg, vM, vP, vQ, hx, hM, hP, hQ⟩ := h
  refine ⟨hg, vM, vP, vQ, blk_put hx i u (hc _ _ _), ?_, ?_, ?_⟩
  · rw [h1]; exact Kd.R_far hM (p := ⟨g, i, none⟩) (fun _ hk => hk) u
  · rw [h2]; exact Kd.R_far hP (p := ⟨g, i, none⟩) (fun _ hk => hk) u
  · rw [h3]; exact Kd.R_far hQ (p := ⟨g, i, none⟩) (fun _ hk => hk.1) u
/-- a store of a new plan -/
theorem Ctl.setPl {B g : Nat} {w : World} {s : CS} (h : Ctl B w g s) {v : Value} {pl : List Int} (hv : Kd.R (Kd.int .i64) 2 w B (fun k => k ≠ g) v pl) : Ctl B (w.setCell ⟨g, 6, none⟩ v) g { s with pl := pl } := by
  obtain ⟨hg, vM, vP, vQ, hx, hM, hP, hQ⟩ := h
  exact ⟨hg, vM, v, vQ, blk_put hx 6 v rfl, Kd.R_far hM (p := ⟨g, 6, none⟩) (fun _ hk => hk) v, Kd.R_far hv (p := ⟨g, 6, none⟩) (fun _ hk => hk) v, Kd.R_far hQ (p := ⟨g, 6, none⟩) (fun _ hk => hk.1) v⟩
/-- behind an append to the pieces, and the store of what it gave -/
theorem Ctl.app {B g : Nat} {w w1 : World} {s : CS} {v : Value} {pcs : List S55} (h : Ctl B w g s) (hx : ∃ vM vP vQ, w.heap[g]? = some (.cells (CtlC vM vP vQ s) 59 (0, 0)) ∧ Kd.R k55 55 w B (fun k => k ≠ g) vM s.ms ∧ Kd.R (Kd.int .i64) 2 w B (fun k => k ≠ g) vP s.pl ∧ Kd.R k55 55 w B (fun k => k ≠ g ∧ some k ≠ vM.ownBlock) vQ s.pcs ∧
    Kd.R k55 55 w1 B (fun k => k ≠ g ∧ some k ≠ vM.ownBlock) v pcs ∧ w.grownBy w1 vQ.ownBlock) : Ctl B (w1.setCell ⟨g, 11, none⟩ v) g { s with pcs := pcs } := by
  obtain ⟨hg, _⟩ := h
  obtain ⟨vM, vP, vQ, hb, hM, hP, hQ, hv, hgr⟩ := hx
  have e1 : some g ≠ vQ.ownBlock := fun e => (hQ.1 g e.symm).1 rfl
  have hM1 : Kd.R k55 55 w1 B (fun k => k ≠ g) vM s.ms := by
    refine Kd.R_mono (ok := fun k => some k = vM.ownBlock ∧ k ≠ g) ?_ (fun _ hk => hk.2)
    obtain ⟨h0, inner, ho, hr⟩ := hM
    refine ⟨fun k hk => ⟨hk.symm, h0 k hk⟩, inner, ?_, ?_⟩
    · refine own_move ho (fun k hk => hgr.block k (own_lt ho k hk) ?_)
      intro e
      have := (hQ.1 k e.symm).2
      exact this hk.symm
    · exact hr.imp_ (fun _ _ hp => by
        have := k55_openM hp
        subst this
        exact k55_mkM _ _ _ _)
  have hP1 : Kd.R (Kd.int .i64) 2 w1 B (fun k => k ≠ g) vP s.pl := by
    refine Kd.R_mono (Kd.R_move (Kd.R_bound (ok := fun k => k ≠ g) hP) (fun k hk => ?_)) (fun _ hk => hk.1)
    obtain ⟨h1, h2, h3, q, hq, cells, hc⟩ := hk
    refine hgr.block k h3 ?_
    intro e
    obtain ⟨inner, ho⟩ := Kd.R_own hQ
    obtain ⟨cells', hc'⟩ := own_typed ho k e.symm
    rw [hc] at hc'
    injection hc' with hc'
    injection hc' with _ hc'
    have hq2 : q = 2 := by simpa [Kd.int, Kd.scalar] using hq
    rw [hq2] at hc'
    exact absurd hc' (by decide)
  exact ⟨hg, vM, vP, v, blk_put (blk_grown hb hgr e1) 11 v rfl, Kd.R_far hM1 (p := ⟨g, 11, none⟩) (fun _ hk => hk) v, Kd.R_far hP1 (p := ⟨g, 11, none⟩) (fun _ hk => hk) v, Kd.R_far hv (p := ⟨g, 11, none⟩) (fun _ hk => hk.1) v⟩
end Go.Proofs.Ytmaegpblaihepaa.F
