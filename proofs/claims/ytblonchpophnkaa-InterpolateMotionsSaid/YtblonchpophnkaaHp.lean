/- The closure of Positions, by a contract: what it tells, for every list of positions and every captured list. -/
import Derived.Test.YtblonchpophnkaaFx0
import Derived.Test.YtblonchpophnkaaWc
namespace Go.Proofs.Ytblonchpophnkaa.F
open Go.RowKit Go.Proofs.YtblonchpophnkaaW.PrintWords Go.Proofs.YtblonchpophnkaaW.PrintLast Go.Proofs.YtblonchpophnkaaW.PrintMore
set_option linter.unusedVariables false
set_option linter.unusedSimpArgs false
/-- what a call of a closure that appends to the list in box g leaves -/
def App {α : Type} (d : Kd α) (e t g base : Nat) (ok : Nat → Prop) (w0 w : World) (ol : List α) (w' : World) : Prop :=
  ∃ v', w'.heap[g]? = some (.cells #[v'] t (0, 0)) ∧ d.R e w' base ok v' ol ∧ Below base w0 w' ∧ w.heap.size ≤ w'.heap.size ∧ (∀ k, k < w.heap.size → k ≠ g → ¬ ok k → w'.heap[k]? = w.heap[k]?)
set_option maxHeartbeats 1000000 in
theorem interpolate_Positions_1.calls (i : Int) (A : Option Addr) (m c : Nat) (pl ol : List S23) (v : Value) (g base : Nat) (ok : Nat → Prop) (w0 w : World) (Hp : Kd.C k23 w A m pl) (Hg : w.heap[g]? = some (.cells #[v] 38 (0, 0)))
    (Ho : Kd.R k23 23 w base ok v ol) (hok : ∀ k, ok k → k ≠ g) (hfresh : ∀ k, w.heap.size ≤ k → ok k) (HB : Below base w0 w) (hbase : base ≤ w.heap.size) (hgb : base ≤ g) (hl : (ol.length + m) * 24 ≤ 140737488355328) :
    Calls Try.prog 44 #[.int .i64 i, .slice A m c, .pointer (some ⟨g, 0, none⟩)] w fun e w' => e = .returned (.tuple #[]) ∧ App k23 23 38 g base ok w0 w (ol ++ pl) w' := by
  have HP := Aside0.mk Hp
  have HG := Aside0.mk Hg
  have HO := Aside0.mk Ho
  have HK := Aside0.mk hok
  have HF := Aside0.mk hfresh
  have HBB := Aside0.mk HB
  have HS := Aside0.mk hbase
  have HGB := Aside0.mk hgb
  have HL := Aside0.mk hl
  clear Hp Hg Ho hok hfresh HB hbase hgb hl
  have ng : some g ≠ v.ownBlock := Kd.R_away HO.out HK.out
  have NG := Aside0.mk ng
  clear ng
  have hc0 : w.cell? ⟨g, 0, none⟩ = some v := (blk_cell HG.out 0).trans rfl
  go_enter Try.func44, Try.ntmps44
  go_wp2_with ((refine Kd.R_append_rows k23 (w0 := w0) base rfl (.tmp 5) (.tmp 6) 38 23 (.agg #[(.int .i64 0), (.int .i64 0), (.int .i64 0)]) 24 rfl Try.underlying38 info23 rfl (by decide) (by omega) v ol pl _ _ _ ok (fun _ => False) rfl rfl HO.out HP.out (fun _ _ h => h) (fun _ h => h.elim) HF.out HBB.out HS.out HL.out ?_); intro v1 w1 ho hb hg hat; have O1 := Aside0.mk ho; have B1 := Aside0.mk hb; have G1 := Aside0.mk hg; have K1 := Aside0.mk (blk_grown HG.out hg NG.out); clear ho hb hg hat; obtain ⟨A1, c1, e1⟩ := Kd.R_slice O1.out; subst e1; have hc1 : w1.cell? ⟨g, 0, none⟩ = some v := (blk_cell K1.out 0).trans rfl; have hf1 := blk_frozen K1.out 0)
  clear hc0 hc1 hf1
  go_end0
  have O2 := O1.out
  simp only [List.length_append] at O2
  refine ⟨rfl, _, blk_put K1.out 0 _ rfl, Kd.R_far O2 HK.out _, B1.out.setCell HGB.out _, ?_, ?_⟩
  · have := G1.out.size; simpa using this
  · intro k hk hkg hko
    exact (Below.heap_setCell _ ⟨g, 0, none⟩ _ k hkg).trans (G1.out.block k hk (fun e => hko (HO.out.1 k e.symm)))
end Go.Proofs.Ytblonchpophnkaa.F
