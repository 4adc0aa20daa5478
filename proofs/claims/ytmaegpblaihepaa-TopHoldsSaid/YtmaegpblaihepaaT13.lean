/- The motions of a trip, by a contract. -/
import Derived.Test.YtmaegpblaihepaaWc
import Derived.Test.YtmaegpblaihepaaCt
import Derived.Test.YtmaegpblaihepaaFx5
import Derived.Test.YtmaegpblaihepaaFa
namespace Go.Proofs.Ytmaegpblaihepaa.F
open Go.RowKit Go.Proofs.YtmaegpblaihepaaW.PrintWords Go.Proofs.YtmaegpblaihepaaW.PrintLast Go.Proofs.YtmaegpblaihepaaW.PrintMore
attribute [local go_sem] max2_int min2_int max_two min_two max_three min_three max_four min_four
set_option linter.unusedVariables false
set_option linter.unusedSimpArgs false
structure S52 where
 f0 : Int
 f1 : Int
 f2 : Int
 f3 : Int
def z52 : S52 := ⟨(0 : Int), (0 : Int), (0 : Int), (0 : Int)⟩
def k52 : Kd S52 := Kd.iso (Kd.pair (Kd.int .i16) (Kd.pair (Kd.int .i16) (Kd.pair (Kd.int .i16) (Kd.int .i16)))) (fun x : S52 => (x.f0, x.f1, x.f2, x.f3))
theorem k52_open {w : World} {x : S52} {cs : List Value} (h : k52.K w x cs) : cs = [.int .i16 x.f0, .int .i16 x.f1, .int .i16 x.f2, .int .i16 x.f3] := by
 obtain ⟨_, _, rfl, rfl, ⟨_, _, rfl, rfl, ⟨_, _, rfl, rfl, rfl⟩⟩⟩ := h
 exact rfl
theorem k52_mk (w : World) (x : S52) : k52.K w x [.int .i16 x.f0, .int .i16 x.f1, .int .i16 x.f2, .int .i16 x.f3] := ⟨[.int .i16 x.f0], [.int .i16 x.f1, .int .i16 x.f2, .int .i16 x.f3], rfl, rfl, ⟨[.int .i16 x.f1], [.int .i16 x.f2, .int .i16 x.f3], rfl, rfl, ⟨[.int .i16 x.f2], [.int .i16 x.f3], rfl, rfl, rfl⟩⟩⟩
def rd_T52 (xs : List S52) (i : Int) : S52 := xs.getD i.toNat z52
theorem at_T52 {w : World} {A : Option Addr} {n : Nat} {xs : List S52} (h : Kd.C k52 w A n xs) (i : Int) (h0 : 0 ≤ i) (h1 : i < n) : ∃ ad , A = some ad ∧ w.cell? (ad.add (i.toNat * 4)) = some (.int .i16 (rd_T52 xs i).f0) ∧ w.cell? ⟨(ad.add (i.toNat * 4)).block, (ad.add (i.toNat * 4)).off + 1, none⟩ = some (.int .i16 (rd_T52 xs i).f1) ∧ w.cell? ⟨(ad.add (i.toNat * 4)).block, (ad.add (i.toNat * 4)).off + 2, none⟩ = some (.int .i16 (rd_T52 xs i).f2) ∧ w.cell? ⟨(ad.add (i.toNat * 4)).block, (ad.add (i.toNat * 4)).off + 3, none⟩ = some (.int .i16 (rd_T52 xs i).f3) := by
 obtain ⟨ad, c, e, _, hK, hc0⟩ := Kd.C_get h z52 i h0 h1
 have hc : ∀ j u, c[j]? = some u → w.cell? (ad.add (i.toNat * 4 + j)) = some u := hc0
 obtain rfl := k52_open hK
 exact ⟨ad, e, hc 0 _ rfl, by rw [← add_field _ _ 1 (by omega)]; exact hc 1 _ rfl, by rw [← add_field _ _ 2 (by omega)]; exact hc 2 _ rfl, by rw [← add_field _ _ 3 (by omega)]; exact hc 3 _ rfl⟩
theorem results_tct {P : Program} {fn : Func} {p u v : Tmp} {ty : TypeId} (h : fn.results = #[.tmp u, .cell p ty, .tmp v]) (tmps : Array Value) (w : World) (g : Nat) (t : TypeId) (cs : Array Value) (fr : Nat × Nat) (d : TypeDesc)
    (hp : tmps.getD p undef = .pointer (some ⟨g, 0, none⟩)) (hg : w.heap[g]? = some (.cells cs t fr))
    (hu : P.underlying ty = some d) (hd : (match d with | .struct _ | .array _ _ => true | _ => false) = true) (hi : (P.info? ty).map (·.size) = some cs.size) :
    (results fn tmps).run P w = .ok (.tuple #[tmps.getD u undef, .agg cs, tmps.getD v undef]) w := by
  have hp' : tmps[p]?.getD undef = .pointer (some ⟨g, 0, none⟩) := by simpa using hp
  simp [results, h, hp', asAddr, run_loadVar_row w g t ty cs fr d hg hu hd hi]
def MotP : Nat → List S52 → Int → Int → Int → Int → List S55 → List S55 → Prop
 | 0, _, _, _, _, _, _, _ => False
 | k + 1, ws, i, x, y, z, ol, res => if i < (ws.length : Int) then (0 ≤ i ∧ ol.length ≤ 1000000 ∧ MotP k ws (wrap64 (i + 1)) (wrap64 (x + (wrap64 (Int.tmod (rd_T52 ws i).f0 600)))) (wrap64 (y + (wrap64 (Int.tmod (rd_T52 ws i).f1 600)))) (wrap64 (z + (wrap64 (Int.tmod (rd_T52 ws i).f2 600)))) (ol ++ [(⟨⟨x, y, z⟩, ⟨(wrap64 (x + (wrap64 (Int.tmod (rd_T52 ws i).f0 600)))), (wrap64 (y + (wrap64 (Int.tmod (rd_T52 ws i).f1 600)))), (wrap64 (z + (wrap64 (Int.tmod (rd_T52 ws i).f2 600))))⟩, (if (wrap64 (1000 * (if 0 < wrap64 (rd_T52 ws i).f3 then wrap64 (rd_T52 ws i).f3 else 0))) > 0 then (if 20000 < (wrap64 (1000 * (if 0 < wrap64 (rd_T52 ws i).f3 then wrap64 (rd_T52 ws i).f3 else 0))) then (wrap64 (1000 * (if 0 < wrap64 (rd_T52 ws i).f3 then wrap64 (rd_T52 ws i).f3 else 0))) else 20000) else (wrap64 (1000 * (if 0 < wrap64 (rd_T52 ws i).f3 then wrap64 (rd_T52 ws i).f3 else 0)))), (wrap64 (1 + (wrap64 (Int.tdiv i 2)))), i⟩ : S55)]) res) else res = ol
def MotR (k : Nat) (x0 y0 z0 : Int) (ws : List S52) (sp ac je : Int) (ok : Bool) (res : List S55) : Prop := (6 < ws.length ∧ ok = false ∧ res = []) ∨ (¬ 6 < ws.length ∧ ∃ e, swarfref49_Valid.f sp ac je = some e ∧ ((e ≠ 0 ∧ ok = false ∧ res = []) ∨ (e = 0 ∧ sp < 20 ∧ ok = false ∧ res = []) ∨ (e = 0 ∧ ¬ sp < 20 ∧ ac < 20 ∧ ok = false ∧ res = []) ∨ (e = 0 ∧ ¬ sp < 20 ∧ ¬ ac < 20 ∧ je < 40 ∧ ok = false ∧ res = []) ∨ (e = 0 ∧ ¬ sp < 20 ∧ ¬ ac < 20 ∧ ¬ je < 40 ∧ ok = true ∧ MotP k ws 0 (wrap64 x0) (wrap64 y0) (wrap64 z0) [] res)))
set_option maxRecDepth 100000 in
set_option maxHeartbeats 8000000 in
theorem swarftop_motions.calls (k : Nat) (x0 y0 z0 : Int) (A : Option Addr) (c : Nat) (ws : List S52) (sp ac je : Int) (ok : Bool) (res : List S55) {w : World} (hr : Kd.C k52 w A ws.length ws) (hc : ws.length ≤ c) (h : MotR k x0 y0 z0 ws sp ac je ok res) : Calls Try.prog 4 #[.agg #[.int .i16 x0, .int .i16 y0, .int .i16 z0, .slice A ws.length c, .int .i64 sp, .int .i64 ac, .int .i64 je]] w fun e w' => ∃ v, e = .returned (.tuple #[v, .agg #[.int .i64 sp, .int .i64 ac, .int .i64 je], .bool ok]) ∧ Kd.R k55 55 w' w.heap.size (fun _ => True) v res ∧ Below w.heap.size w w' := by
 have hu22 := Try.underlying22
 have hu23 := Try.underlying23
 have hu24 := Try.underlying24
 have hu26 := Try.underlying26
 have hu28 := Try.underlying28
 have hu31 := Try.underlying31
 have hu42 := Try.underlying42
 have hu52 := Try.underlying52
 have hu55 := Try.underlying55
 have hu30 := Try.underlying30
 have HR := Aside0.mk hr
 have HC := Aside0.mk hc
 have HB := Aside0.mk (Below.refl w.heap.size w)
 clear hr hc
 unfold MotR at h
 have HH := Aside0.mk h
 clear h
 go_enter Try.func4, Try.ntmps4
 go_upto_region 2 with (first | ((with_reducible refine gate_dst (N := 1) rfl ?_); refine box_event ?hg (N := 1) ?hd (cs := #[.int .i16 x0, .int .i16 y0, .int .i16 z0, .slice A ws.length c, .int .i64 sp, .int .i64 ac, .int .i64 je]) (t := 28) ?hr ?_; (case hd => rfl); (case hg => rfl); (case hr => first | (go_simp; done) | (go_simp; rfl)); intro gbT hg wz1 hbox hb; have n0_ := Aside0.mk (below_step (HB.out) hb); have n1_ := Aside0.mk (hbox); have n2_ := Aside0.mk ((by rw [hg]; exact (below_size (HB.out))) : w.heap.size ≤ gbT); clear HB; have HB := n0_; have BKT := n1_; have GET := n2_; clear n0_ n1_ n2_; clear hb hbox hg; obtain ⟨hb1T0, hb1T1, hb1T2, hb1T3, hb1T4, hb1T5, hb1T6⟩ := cells7 BKT.out) | ((with_reducible refine gate_dst (N := 3) rfl ?_); refine box_event ?hg (N := 3) ?hd (cs := #[.int .i64 0, .int .i64 0, .int .i64 0]) (t := 31) ?hr ?_; (case hd => rfl); (case hg => rfl); (case hr => first | (go_simp; done) | (go_simp; rfl)); intro gbR hg wz2 hbox hb; have n0_ := Aside0.mk (blk_below (g := gbT) (o := .cells #[.int .i16 x0, .int .i16 y0, .int .i16 z0, .slice A ws.length c, .int .i64 sp, .int .i64 ac, .int .i64 je] 28 (0, 0)) (BKT.out) hb); have n1_ := Aside0.mk (below_step (HB.out) hb); have n2_ := Aside0.mk (hbox); have n3_ := Aside0.mk ((by rw [hg]; exact (below_size (HB.out))) : w.heap.size ≤ gbR); have n4_ := Aside0.mk ((by rw [hg]; exact Nat.ne_of_lt (blk_lt (g := gbT) (o := .cells #[.int .i16 x0, .int .i16 y0, .int .i16 z0, .slice A ws.length c, .int .i64 sp, .int .i64 ac, .int .i64 je] 28 (0, 0)) (BKT.out))) : gbT ≠ gbR); have n5_ := Aside0.mk ((by rw [hg]; exact Nat.ne_of_gt (blk_lt (g := gbT) (o := .cells #[.int .i16 x0, .int .i16 y0, .int .i16 z0, .slice A ws.length c, .int .i64 sp, .int .i64 ac, .int .i64 je] 28 (0, 0)) (BKT.out))) : gbR ≠ gbT); clear BKT HB; have BKT := n0_; have HB := n1_; have BKR := n2_; have GER := n3_; have NBT_R := n4_; have NBR_T := n5_; clear n0_ n1_ n2_ n3_ n4_ n5_; clear hb hbox hg; obtain ⟨hb3T0, hb3T1, hb3T2, hb3T3, hb3T4, hb3T5, hb3T6⟩ := cells7 BKT.out) | ((with_reducible refine gate_dst (N := 5) rfl ?_); refine box_event ?hg (N := 5) ?hd (cs := #[.int .i64 0, .int .i64 0, .int .i64 0]) (t := 42) ?hr ?_; (case hd => rfl); (case hg => rfl); (case hr => first | (go_simp; done) | (go_simp; rfl)); intro gbP hg wz3 hbox hb; have n0_ := Aside0.mk (blk_below (g := gbT) (o := .cells #[.int .i16 x0, .int .i16 y0, .int .i16 z0, .slice A ws.length c, .int .i64 sp, .int .i64 ac, .int .i64 je] 28 (0, 0)) (BKT.out) hb); have n1_ := Aside0.mk (blk_below (g := gbR) (o := .cells #[.int .i64 0, .int .i64 0, .int .i64 0] 31 (0, 0)) (BKR.out) hb); have n2_ := Aside0.mk (below_step (HB.out) hb); have n3_ := Aside0.mk (hbox); have n4_ := Aside0.mk ((by rw [hg]; exact (below_size (HB.out))) : w.heap.size ≤ gbP); have n5_ := Aside0.mk ((by rw [hg]; exact Nat.ne_of_lt (blk_lt (g := gbT) (o := .cells #[.int .i16 x0, .int .i16 y0, .int .i16 z0, .slice A ws.length c, .int .i64 sp, .int .i64 ac, .int .i64 je] 28 (0, 0)) (BKT.out))) : gbT ≠ gbP); have n6_ := Aside0.mk ((by rw [hg]; exact Nat.ne_of_gt (blk_lt (g := gbT) (o := .cells #[.int .i16 x0, .int .i16 y0, .int .i16 z0, .slice A ws.length c, .int .i64 sp, .int .i64 ac, .int .i64 je] 28 (0, 0)) (BKT.out))) : gbP ≠ gbT); have n7_ := Aside0.mk ((by rw [hg]; exact Nat.ne_of_lt (blk_lt (g := gbR) (o := .cells #[.int .i64 0, .int .i64 0, .int .i64 0] 31 (0, 0)) (BKR.out))) : gbR ≠ gbP); have n8_ := Aside0.mk ((by rw [hg]; exact Nat.ne_of_gt (blk_lt (g := gbR) (o := .cells #[.int .i64 0, .int .i64 0, .int .i64 0] 31 (0, 0)) (BKR.out))) : gbP ≠ gbR); clear BKT BKR HB; have BKT := n0_; have BKR := n1_; have HB := n2_; have BKP := n3_; have GEP := n4_; have NBT_P := n5_; have NBP_T := n6_; have NBR_P := n7_; have NBP_R := n8_; clear n0_ n1_ n2_ n3_ n4_ n5_ n6_ n7_ n8_; clear hb hbox hg; obtain ⟨hb5P0, hb5P1, hb5P2⟩ := cells3 BKP.out; have hfzb5_P_0 := blk_frozen BKP.out 0; have hfzb5_P_1 := blk_frozen BKP.out 1; have hfzb5_P_2 := blk_frozen BKP.out 2))
 generalize hq9 : World.setCell _ _ _ = wa
 have n0_ : Aside0 (wa.heap[gbT]? = some (.cells #[.int .i16 x0, .int .i16 y0, .int .i16 z0, .slice A ws.length c, .int .i64 sp, .int .i64 ac, .int .i64 je] 28 (0, 0))) := ⟨by rw [← hq9]; exact (by (with_reducible repeat (first | refine blk_drewN ?_ _ | refine blk_drew ?_ | refine blk_alloc ?_ _)); refine blk_far ?_ NBT_P.out _; (with_reducible repeat (first | refine blk_drewN ?_ _ | refine blk_drew ?_ | refine blk_alloc ?_ _)); refine blk_far ?_ NBT_P.out _; (with_reducible repeat (first | refine blk_drewN ?_ _ | refine blk_drew ?_ | refine blk_alloc ?_ _)); refine blk_far ?_ NBT_P.out _; (with_reducible repeat (first | refine blk_drewN ?_ _ | refine blk_drew ?_ | refine blk_alloc ?_ _)); exact BKT.out)⟩
 have n1_ : Aside0 (wa.heap[gbR]? = some (.cells #[.int .i64 0, .int .i64 0, .int .i64 0] 31 (0, 0))) := ⟨by rw [← hq9]; exact (by (with_reducible repeat (first | refine blk_drewN ?_ _ | refine blk_drew ?_ | refine blk_alloc ?_ _)); refine blk_far ?_ NBR_P.out _; (with_reducible repeat (first | refine blk_drewN ?_ _ | refine blk_drew ?_ | refine blk_alloc ?_ _)); refine blk_far ?_ NBR_P.out _; (with_reducible repeat (first | refine blk_drewN ?_ _ | refine blk_drew ?_ | refine blk_alloc ?_ _)); refine blk_far ?_ NBR_P.out _; (with_reducible repeat (first | refine blk_drewN ?_ _ | refine blk_drew ?_ | refine blk_alloc ?_ _)); exact BKR.out)⟩
 have n2_ : Aside0 (wa.heap[gbP]? = some (.cells #[.int .i64 (wrap64 x0), .int .i64 (wrap64 y0), .int .i64 (wrap64 z0)] 42 (0, 0))) := ⟨by rw [← hq9]; exact (by (with_reducible repeat (first | refine blk_drewN ?_ _ | refine blk_drew ?_ | refine blk_alloc ?_ _)); refine blk_put (cs := #[.int .i64 (wrap64 x0), .int .i64 (wrap64 y0), .int .i64 0]) ?_ 2 _ rfl; (with_reducible repeat (first | refine blk_drewN ?_ _ | refine blk_drew ?_ | refine blk_alloc ?_ _)); refine blk_put (cs := #[.int .i64 (wrap64 x0), .int .i64 0, .int .i64 0]) ?_ 1 _ rfl; (with_reducible repeat (first | refine blk_drewN ?_ _ | refine blk_drew ?_ | refine blk_alloc ?_ _)); refine blk_put (cs := #[.int .i64 0, .int .i64 0, .int .i64 0]) ?_ 0 _ rfl; (with_reducible repeat (first | refine blk_drewN ?_ _ | refine blk_drew ?_ | refine blk_alloc ?_ _)); exact BKP.out)⟩
 have nb_ : Aside0 (Below w.heap.size w wa) := ⟨by rw [← hq9]; exact (by repeat (first | (with_reducible first | exact HB.out | apply below_alloc | apply pw_below_drewN | apply below_drew1 | refine below_set ?_ GET.out | refine below_set ?_ GER.out | refine below_set ?_ GEP.out) | exact HB.out))⟩
 clear hq9 HB BKT BKR BKP
 have HB := nb_
 clear nb_
 have BKT := n0_
 clear n0_
 have BKR := n1_
 clear n1_
 have BKP := n2_
 clear n2_
 obtain ⟨hcT0, hcT1, hcT2, hcT3, hcT4, hcT5, hcT6⟩ := cells7 BKT.out
 clear hb1T0 hb1T1 hb1T2 hb1T3 hb1T4 hb1T5 hb1T6 hb3T0 hb3T1 hb3T2 hb3T3 hb3T4 hb3T5 hb3T6 hb5P0 hfzb5_P_0 hb5P1 hfzb5_P_1 hb5P2 hfzb5_P_2
 go_upto_region 3 with (first | ((with_reducible refine gate_dst (N := 6) rfl ?_); refine box_event ?hg (N := 6) ?hd (cs := #[.int .i64 0, .int .i64 0, .int .i64 0]) (t := 31) ?hr ?_; (case hd => rfl); (case hg => rfl); (case hr => first | (go_simp; done) | (go_simp; rfl)); intro gbX hg wz4 hbox hb; have n0_ := Aside0.mk (blk_below (g := gbT) (o := .cells #[.int .i16 x0, .int .i16 y0, .int .i16 z0, .slice A ws.length c, .int .i64 sp, .int .i64 ac, .int .i64 je] 28 (0, 0)) (BKT.out) hb); have n1_ := Aside0.mk (blk_below (g := gbR) (o := .cells #[.int .i64 0, .int .i64 0, .int .i64 0] 31 (0, 0)) (BKR.out) hb); have n2_ := Aside0.mk (blk_below (g := gbP) (o := .cells #[.int .i64 (wrap64 x0), .int .i64 (wrap64 y0), .int .i64 (wrap64 z0)] 42 (0, 0)) (BKP.out) hb); have n3_ := Aside0.mk (below_step (HB.out) hb); have n4_ := Aside0.mk (hbox); have n5_ := Aside0.mk ((by rw [hg]; exact (below_size (HB.out))) : w.heap.size ≤ gbX); have n6_ := Aside0.mk ((by rw [hg]; exact Nat.ne_of_lt (blk_lt (g := gbT) (o := .cells #[.int .i16 x0, .int .i16 y0, .int .i16 z0, .slice A ws.length c, .int .i64 sp, .int .i64 ac, .int .i64 je] 28 (0, 0)) (BKT.out))) : gbT ≠ gbX); have n7_ := Aside0.mk ((by rw [hg]; exact Nat.ne_of_gt (blk_lt (g := gbT) (o := .cells #[.int .i16 x0, .int .i16 y0, .int .i16 z0, .slice A ws.length c, .int .i64 sp, .int .i64 ac, .int .i64 je] 28 (0, 0)) (BKT.out))) : gbX ≠ gbT); have n8_ := Aside0.mk ((by rw [hg]; exact Nat.ne_of_lt (blk_lt (g := gbR) (o := .cells #[.int .i64 0, .int .i64 0, .int .i64 0] 31 (0, 0)) (BKR.out))) : gbR ≠ gbX); have n9_ := Aside0.mk ((by rw [hg]; exact Nat.ne_of_gt (blk_lt (g := gbR) (o := .cells #[.int .i64 0, .int .i64 0, .int .i64 0] 31 (0, 0)) (BKR.out))) : gbX ≠ gbR); have n10_ := Aside0.mk ((by rw [hg]; exact Nat.ne_of_lt (blk_lt (g := gbP) (o := .cells #[.int .i64 (wrap64 x0), .int .i64 (wrap64 y0), .int .i64 (wrap64 z0)] 42 (0, 0)) (BKP.out))) : gbP ≠ gbX); have n11_ := Aside0.mk ((by rw [hg]; exact Nat.ne_of_gt (blk_lt (g := gbP) (o := .cells #[.int .i64 (wrap64 x0), .int .i64 (wrap64 y0), .int .i64 (wrap64 z0)] 42 (0, 0)) (BKP.out))) : gbX ≠ gbP); clear BKT BKR BKP HB; have BKT := n0_; have BKR := n1_; have BKP := n2_; have HB := n3_; have BKX := n4_; have GEX := n5_; have NBT_X := n6_; have NBX_T := n7_; have NBR_X := n8_; have NBX_R := n9_; have NBP_X := n10_; have NBX_P := n11_; clear n0_ n1_ n2_ n3_ n4_ n5_ n6_ n7_ n8_ n9_ n10_ n11_; clear hb hbox hg; obtain ⟨hb6X0, hb6X1, hb6X2⟩ := cells3 BKX.out; have hfzb6_X_0 := blk_frozen BKX.out 0; have hfzb6_X_1 := blk_frozen BKX.out 1; have hfzb6_X_2 := blk_frozen BKX.out 2))
 generalize hq9 : World.setCell _ _ _ = wb
 have n0_ : Aside0 (wb.heap[gbT]? = some (.cells #[.int .i16 x0, .int .i16 y0, .int .i16 z0, .slice A ws.length c, .int .i64 sp, .int .i64 ac, .int .i64 je] 28 (0, 0))) := ⟨by rw [← hq9]; exact (by (with_reducible repeat (first | refine blk_drewN ?_ _ | refine blk_drew ?_ | refine blk_alloc ?_ _)); refine blk_far ?_ NBT_X.out _; (with_reducible repeat (first | refine blk_drewN ?_ _ | refine blk_drew ?_ | refine blk_alloc ?_ _)); refine blk_far ?_ NBT_X.out _; (with_reducible repeat (first | refine blk_drewN ?_ _ | refine blk_drew ?_ | refine blk_alloc ?_ _)); refine blk_far ?_ NBT_X.out _; (with_reducible repeat (first | refine blk_drewN ?_ _ | refine blk_drew ?_ | refine blk_alloc ?_ _)); exact BKT.out)⟩
 have n1_ : Aside0 (wb.heap[gbR]? = some (.cells #[.int .i64 0, .int .i64 0, .int .i64 0] 31 (0, 0))) := ⟨by rw [← hq9]; exact (by (with_reducible repeat (first | refine blk_drewN ?_ _ | refine blk_drew ?_ | refine blk_alloc ?_ _)); refine blk_far ?_ NBR_X.out _; (with_reducible repeat (first | refine blk_drewN ?_ _ | refine blk_drew ?_ | refine blk_alloc ?_ _)); refine blk_far ?_ NBR_X.out _; (with_reducible repeat (first | refine blk_drewN ?_ _ | refine blk_drew ?_ | refine blk_alloc ?_ _)); refine blk_far ?_ NBR_X.out _; (with_reducible repeat (first | refine blk_drewN ?_ _ | refine blk_drew ?_ | refine blk_alloc ?_ _)); exact BKR.out)⟩
 have n2_ : Aside0 (wb.heap[gbP]? = some (.cells #[.int .i64 (wrap64 x0), .int .i64 (wrap64 y0), .int .i64 (wrap64 z0)] 42 (0, 0))) := ⟨by rw [← hq9]; exact (by (with_reducible repeat (first | refine blk_drewN ?_ _ | refine blk_drew ?_ | refine blk_alloc ?_ _)); refine blk_far ?_ NBP_X.out _; (with_reducible repeat (first | refine blk_drewN ?_ _ | refine blk_drew ?_ | refine blk_alloc ?_ _)); refine blk_far ?_ NBP_X.out _; (with_reducible repeat (first | refine blk_drewN ?_ _ | refine blk_drew ?_ | refine blk_alloc ?_ _)); refine blk_far ?_ NBP_X.out _; (with_reducible repeat (first | refine blk_drewN ?_ _ | refine blk_drew ?_ | refine blk_alloc ?_ _)); exact BKP.out)⟩
 have n3_ : Aside0 (wb.heap[gbX]? = some (.cells #[.int .i64 sp, .int .i64 ac, .int .i64 je] 31 (0, 0))) := ⟨by rw [← hq9]; exact (by (with_reducible repeat (first | refine blk_drewN ?_ _ | refine blk_drew ?_ | refine blk_alloc ?_ _)); refine blk_put (cs := #[.int .i64 sp, .int .i64 ac, .int .i64 0]) ?_ 2 _ rfl; (with_reducible repeat (first | refine blk_drewN ?_ _ | refine blk_drew ?_ | refine blk_alloc ?_ _)); refine blk_put (cs := #[.int .i64 sp, .int .i64 0, .int .i64 0]) ?_ 1 _ rfl; (with_reducible repeat (first | refine blk_drewN ?_ _ | refine blk_drew ?_ | refine blk_alloc ?_ _)); refine blk_put (cs := #[.int .i64 0, .int .i64 0, .int .i64 0]) ?_ 0 _ rfl; (with_reducible repeat (first | refine blk_drewN ?_ _ | refine blk_drew ?_ | refine blk_alloc ?_ _)); exact BKX.out)⟩
 have nb_ : Aside0 (Below w.heap.size w wb) := ⟨by rw [← hq9]; exact (by repeat (first | (with_reducible first | exact HB.out | apply below_alloc | apply pw_below_drewN | apply below_drew1 | refine below_set ?_ GET.out | refine below_set ?_ GER.out | refine below_set ?_ GEP.out | refine below_set ?_ GEX.out) | exact HB.out))⟩
 clear hq9 HB BKT BKR BKP BKX
 have HB := nb_
 clear nb_
 have BKT := n0_
 clear n0_
 have BKR := n1_
 clear n1_
 have BKP := n2_
 clear n2_
 have BKX := n3_
 clear n3_
 obtain ⟨hdT0, hdT1, hdT2, hdT3, hdT4, hdT5, hdT6⟩ := cells7 BKT.out
 obtain ⟨hdX0, hdX1, hdX2⟩ := cells3 BKX.out
 have hfzd_X_0 := blk_frozen BKX.out 0
 have hfzd_X_1 := blk_frozen BKX.out 1
 have hfzd_X_2 := blk_frozen BKX.out 2
 clear hcT0 hcT1 hcT2 hcT3 hcT4 hcT5 hcT6 hb6X0 hfzb6_X_0 hb6X1 hfzb6_X_1 hb6X2 hfzb6_X_2
 have h := HH.out
 clear HH
 rcases h with ⟨c1, rfl, rfl⟩ | ⟨c1, e, hv, h⟩
 · have cb : decide (6 < ws.length) = true := decide_eq_true c1
   have cb2 : decide ((6 : Int) < (ws.length : Int)) = true := decide_eq_true (by omega)
   clear c1
   go_upto_region 4 with (fail)
   refine start_ (n := 4) (S := fun w' => Below wb.heap.size wb w' ∧ w'.cell? ⟨gbX, 0, none⟩ = some (.int .i64 sp) ∧ w'.cell? ⟨gbX, 1, none⟩ = some (.int .i64 ac) ∧ w'.cell? ⟨gbX, 2, none⟩ = some (.int .i64 je)) (ds := [2]) #[false, false, false, false] (by kernel_rfl) rfl rfl ⟨below_drew (Below.refl _ _), pw_cell_below (below_drew (Below.refl _ _)) hdX0, pw_cell_below (below_drew (Below.refl _ _)) hdX1, pw_cell_below (below_drew (Below.refl _ _)) hdX2⟩ (fun hHeld => ?_)
   generalize World.drew _ = wd at hHeld ⊢
   refine pu 1 2 (bzz 4 2) (by kernel_rfl) ?_
   refine ta 0 60 (bzz 4 3) (by kernel_rfl) hHeld ?_
   refine last_ (i := 2) (N := none) (bzz 4 7) rfl rfl (by kernel_rfl) (by decide) (fun K hK => ?_)
   have BKR3 := Aside0.mk (blk_below BKR.out hHeld.1)
   have hR0 : wd.cell? ⟨gbR, 0, none⟩ = some (.int .i64 0) := (blk_cell BKR3.out 0).trans rfl
   have hR1 : wd.cell? ⟨gbR, 1, none⟩ = some (.int .i64 0) := (blk_cell BKR3.out 1).trans rfl
   have hR2 : wd.cell? ⟨gbR, 2, none⟩ = some (.int .i64 0) := (blk_cell BKR3.out 2).trans rfl
   have hRf0 := blk_frozen BKR3.out 0
   have hRf1 := blk_frozen BKR3.out 1
   have hRf2 := blk_frozen BKR3.out 2
   refine skip_ (w1 := ?_) (by rfl) rfl ?_ ?_
   rotate_left
   · go_simp
     rfl
   refine hK.out _ _ ?_
   clear hK K
   refine pu 3 4 (bzz 4 15) (by kernel_rfl) ?_
   refine done_ (by kernel_rfl) ?_
   have HBd := Aside0.mk (below_step HB.out hHeld.1)
   have BKR3 := Aside0.mk (blk_below BKR.out hHeld.1)
   go_wp2
   refine bodyPost_ret (results_tct rfl _ _ gbR 31 #[.int .i64 sp, .int .i64 ac, .int .i64 je] (0, 0) _ rfl (by refine blk_put (cs := #[.int .i64 sp, .int .i64 ac, .int .i64 0]) ?_ 2 _ rfl; refine blk_put (cs := #[.int .i64 sp, .int .i64 0, .int .i64 0]) ?_ 1 _ rfl; refine blk_put (cs := #[.int .i64 0, .int .i64 0, .int .i64 0]) ?_ 0 _ rfl; exact BKR3.out) hu31 rfl (by kernel_rfl)) rfl ?_
   exact ⟨_, rfl, Kd.R_nil _ _ _ _ _, ((HBd.out.setCell GER.out _).setCell GER.out _).setCell GER.out _⟩
 · have cb : decide (6 < ws.length) = false := decide_eq_false c1
   have cb2 : decide ((6 : Int) < (ws.length : Int)) = false := decide_eq_false (by omega)
   clear c1
   have VV := Aside0.mk hv
   clear hv
   rcases h with ⟨c2, rfl, rfl⟩ | ⟨c2, c3, rfl, rfl⟩ | ⟨c2, c3, c4, rfl, rfl⟩ | ⟨c2, c3, c4, c5, rfl, rfl⟩ | ⟨c2, c3, c4, c5, rfl, h⟩
   · skip
     have d2 : (e != 0) = true := bne_iff_ne.mpr c2
     clear c2
     go_upto_region 4 with (first | (go_at_call 19; (with_reducible refine (swarfref49_Valid.calls sp ac je e _ VV.out).mono ?_); rintro e_ wv ⟨rfl, hb⟩; have n0_ := Aside0.mk (blk_below BKT.out hb); have n1_ := Aside0.mk (blk_below BKR.out hb); have n2_ := Aside0.mk (blk_below BKP.out hb); have n3_ := Aside0.mk (blk_below BKX.out hb); have n4_ := Aside0.mk (below_step (HB.out) hb); clear BKT BKR BKP BKX HB; have BKT := n0_; have BKR := n1_; have BKP := n2_; have BKX := n3_; have HB := n4_; clear n0_ n1_ n2_ n3_ n4_ hb; obtain ⟨hq2X0, hq2X1, hq2X2⟩ := cells3 BKX.out; have hfzq2_X_0 := blk_frozen BKX.out 0; have hfzq2_X_1 := blk_frozen BKX.out 1; have hfzq2_X_2 := blk_frozen BKX.out 2))
     refine start_ (n := 4) (S := fun w' => Below wv.heap.size wv w' ∧ w'.cell? ⟨gbX, 0, none⟩ = some (.int .i64 sp) ∧ w'.cell? ⟨gbX, 1, none⟩ = some (.int .i64 ac) ∧ w'.cell? ⟨gbX, 2, none⟩ = some (.int .i64 je)) (ds := [2]) #[false, false, false, false] (by kernel_rfl) rfl rfl ⟨below_drew (Below.refl _ _), pw_cell_below (below_drew (Below.refl _ _)) hq2X0, pw_cell_below (below_drew (Below.refl _ _)) hq2X1, pw_cell_below (below_drew (Below.refl _ _)) hq2X2⟩ (fun hHeld => ?_)
     generalize World.drew _ = wd at hHeld ⊢
     refine pu 1 2 (bzz 4 2) (by kernel_rfl) ?_
     refine ta 0 60 (bzz 4 3) (by kernel_rfl) hHeld ?_
     refine last_ (i := 2) (N := none) (bzz 4 7) rfl rfl (by kernel_rfl) (by decide) (fun K hK => ?_)
     have BKR3 := Aside0.mk (blk_below BKR.out hHeld.1)
     have hR0 : wd.cell? ⟨gbR, 0, none⟩ = some (.int .i64 0) := (blk_cell BKR3.out 0).trans rfl
     have hR1 : wd.cell? ⟨gbR, 1, none⟩ = some (.int .i64 0) := (blk_cell BKR3.out 1).trans rfl
     have hR2 : wd.cell? ⟨gbR, 2, none⟩ = some (.int .i64 0) := (blk_cell BKR3.out 2).trans rfl
     have hRf0 := blk_frozen BKR3.out 0
     have hRf1 := blk_frozen BKR3.out 1
     have hRf2 := blk_frozen BKR3.out 2
     refine skip_ (w1 := ?_) (by rfl) rfl ?_ ?_
     rotate_left
     · go_simp
       rfl
     refine hK.out _ _ ?_
     clear hK K
     refine pu 3 4 (bzz 4 15) (by kernel_rfl) ?_
     refine done_ (by kernel_rfl) ?_
     have HBd := Aside0.mk (below_step HB.out hHeld.1)
     have BKR3 := Aside0.mk (blk_below BKR.out hHeld.1)
     go_wp2
     refine bodyPost_ret (results_tct rfl _ _ gbR 31 #[.int .i64 sp, .int .i64 ac, .int .i64 je] (0, 0) _ rfl (by refine blk_put (cs := #[.int .i64 sp, .int .i64 ac, .int .i64 0]) ?_ 2 _ rfl; refine blk_put (cs := #[.int .i64 sp, .int .i64 0, .int .i64 0]) ?_ 1 _ rfl; refine blk_put (cs := #[.int .i64 0, .int .i64 0, .int .i64 0]) ?_ 0 _ rfl; exact BKR3.out) hu31 rfl (by kernel_rfl)) rfl ?_
     exact ⟨_, rfl, Kd.R_nil _ _ _ _ _, ((HBd.out.setCell GER.out _).setCell GER.out _).setCell GER.out _⟩
   · skip
     have d2 : (e != 0) = false := bne_eq_false_iff_eq.mpr c2
     have d3 : decide (sp < 20) = true := decide_eq_true c3
     clear c3
     clear c2
     go_upto_region 4 with (first | (go_at_call 19; (with_reducible refine (swarfref49_Valid.calls sp ac je e _ VV.out).mono ?_); rintro e_ wv ⟨rfl, hb⟩; have n0_ := Aside0.mk (blk_below BKT.out hb); have n1_ := Aside0.mk (blk_below BKR.out hb); have n2_ := Aside0.mk (blk_below BKP.out hb); have n3_ := Aside0.mk (blk_below BKX.out hb); have n4_ := Aside0.mk (below_step (HB.out) hb); clear BKT BKR BKP BKX HB; have BKT := n0_; have BKR := n1_; have BKP := n2_; have BKX := n3_; have HB := n4_; clear n0_ n1_ n2_ n3_ n4_ hb; obtain ⟨hq3X0, hq3X1, hq3X2⟩ := cells3 BKX.out; have hfzq3_X_0 := blk_frozen BKX.out 0; have hfzq3_X_1 := blk_frozen BKX.out 1; have hfzq3_X_2 := blk_frozen BKX.out 2))
     refine start_ (n := 4) (S := fun w' => Below wv.heap.size wv w' ∧ w'.cell? ⟨gbX, 0, none⟩ = some (.int .i64 sp) ∧ w'.cell? ⟨gbX, 1, none⟩ = some (.int .i64 ac) ∧ w'.cell? ⟨gbX, 2, none⟩ = some (.int .i64 je)) (ds := [2]) #[false, false, false, false] (by kernel_rfl) rfl rfl ⟨below_drew (Below.refl _ _), pw_cell_below (below_drew (Below.refl _ _)) hq3X0, pw_cell_below (below_drew (Below.refl _ _)) hq3X1, pw_cell_below (below_drew (Below.refl _ _)) hq3X2⟩ (fun hHeld => ?_)
     generalize World.drew _ = wd at hHeld ⊢
     refine pu 1 2 (bzz 4 2) (by kernel_rfl) ?_
     refine ta 0 60 (bzz 4 3) (by kernel_rfl) hHeld ?_
     refine last_ (i := 2) (N := none) (bzz 4 7) rfl rfl (by kernel_rfl) (by decide) (fun K hK => ?_)
     have BKR3 := Aside0.mk (blk_below BKR.out hHeld.1)
     have hR0 : wd.cell? ⟨gbR, 0, none⟩ = some (.int .i64 0) := (blk_cell BKR3.out 0).trans rfl
     have hR1 : wd.cell? ⟨gbR, 1, none⟩ = some (.int .i64 0) := (blk_cell BKR3.out 1).trans rfl
     have hR2 : wd.cell? ⟨gbR, 2, none⟩ = some (.int .i64 0) := (blk_cell BKR3.out 2).trans rfl
     have hRf0 := blk_frozen BKR3.out 0
     have hRf1 := blk_frozen BKR3.out 1
     have hRf2 := blk_frozen BKR3.out 2
     refine skip_ (w1 := ?_) (by rfl) rfl ?_ ?_
     rotate_left
     · go_simp
       rfl
     refine hK.out _ _ ?_
     clear hK K
     refine pu 3 4 (bzz 4 15) (by kernel_rfl) ?_
     refine done_ (by kernel_rfl) ?_
     have HBd := Aside0.mk (below_step HB.out hHeld.1)
     have BKR3 := Aside0.mk (blk_below BKR.out hHeld.1)
     go_wp2
     refine bodyPost_ret (results_tct rfl _ _ gbR 31 #[.int .i64 sp, .int .i64 ac, .int .i64 je] (0, 0) _ rfl (by refine blk_put (cs := #[.int .i64 sp, .int .i64 ac, .int .i64 0]) ?_ 2 _ rfl; refine blk_put (cs := #[.int .i64 sp, .int .i64 0, .int .i64 0]) ?_ 1 _ rfl; refine blk_put (cs := #[.int .i64 0, .int .i64 0, .int .i64 0]) ?_ 0 _ rfl; exact BKR3.out) hu31 rfl (by kernel_rfl)) rfl ?_
     exact ⟨_, rfl, Kd.R_nil _ _ _ _ _, ((HBd.out.setCell GER.out _).setCell GER.out _).setCell GER.out _⟩
   · skip
     have d2 : (e != 0) = false := bne_eq_false_iff_eq.mpr c2
     have d3 : decide (sp < 20) = false := decide_eq_false c3
     clear c3
     have d4 : decide (ac < 20) = true := decide_eq_true c4
     clear c4
     clear c2
     go_upto_region 4 with (first | (go_at_call 19; (with_reducible refine (swarfref49_Valid.calls sp ac je e _ VV.out).mono ?_); rintro e_ wv ⟨rfl, hb⟩; have n0_ := Aside0.mk (blk_below BKT.out hb); have n1_ := Aside0.mk (blk_below BKR.out hb); have n2_ := Aside0.mk (blk_below BKP.out hb); have n3_ := Aside0.mk (blk_below BKX.out hb); have n4_ := Aside0.mk (below_step (HB.out) hb); clear BKT BKR BKP BKX HB; have BKT := n0_; have BKR := n1_; have BKP := n2_; have BKX := n3_; have HB := n4_; clear n0_ n1_ n2_ n3_ n4_ hb; obtain ⟨hq4X0, hq4X1, hq4X2⟩ := cells3 BKX.out; have hfzq4_X_0 := blk_frozen BKX.out 0; have hfzq4_X_1 := blk_frozen BKX.out 1; have hfzq4_X_2 := blk_frozen BKX.out 2))
     refine start_ (n := 4) (S := fun w' => Below wv.heap.size wv w' ∧ w'.cell? ⟨gbX, 0, none⟩ = some (.int .i64 sp) ∧ w'.cell? ⟨gbX, 1, none⟩ = some (.int .i64 ac) ∧ w'.cell? ⟨gbX, 2, none⟩ = some (.int .i64 je)) (ds := [2]) #[false, false, false, false] (by kernel_rfl) rfl rfl ⟨below_drew (Below.refl _ _), pw_cell_below (below_drew (Below.refl _ _)) hq4X0, pw_cell_below (below_drew (Below.refl _ _)) hq4X1, pw_cell_below (below_drew (Below.refl _ _)) hq4X2⟩ (fun hHeld => ?_)
     generalize World.drew _ = wd at hHeld ⊢
     refine pu 1 2 (bzz 4 2) (by kernel_rfl) ?_
     refine ta 0 60 (bzz 4 3) (by kernel_rfl) hHeld ?_
     refine last_ (i := 2) (N := none) (bzz 4 7) rfl rfl (by kernel_rfl) (by decide) (fun K hK => ?_)
     have BKR3 := Aside0.mk (blk_below BKR.out hHeld.1)
     have hR0 : wd.cell? ⟨gbR, 0, none⟩ = some (.int .i64 0) := (blk_cell BKR3.out 0).trans rfl
     have hR1 : wd.cell? ⟨gbR, 1, none⟩ = some (.int .i64 0) := (blk_cell BKR3.out 1).trans rfl
     have hR2 : wd.cell? ⟨gbR, 2, none⟩ = some (.int .i64 0) := (blk_cell BKR3.out 2).trans rfl
     have hRf0 := blk_frozen BKR3.out 0
     have hRf1 := blk_frozen BKR3.out 1
     have hRf2 := blk_frozen BKR3.out 2
     refine skip_ (w1 := ?_) (by rfl) rfl ?_ ?_
     rotate_left
     · go_simp
       rfl
     refine hK.out _ _ ?_
     clear hK K
     refine pu 3 4 (bzz 4 15) (by kernel_rfl) ?_
     refine done_ (by kernel_rfl) ?_
     have HBd := Aside0.mk (below_step HB.out hHeld.1)
     have BKR3 := Aside0.mk (blk_below BKR.out hHeld.1)
     go_wp2
     refine bodyPost_ret (results_tct rfl _ _ gbR 31 #[.int .i64 sp, .int .i64 ac, .int .i64 je] (0, 0) _ rfl (by refine blk_put (cs := #[.int .i64 sp, .int .i64 ac, .int .i64 0]) ?_ 2 _ rfl; refine blk_put (cs := #[.int .i64 sp, .int .i64 0, .int .i64 0]) ?_ 1 _ rfl; refine blk_put (cs := #[.int .i64 0, .int .i64 0, .int .i64 0]) ?_ 0 _ rfl; exact BKR3.out) hu31 rfl (by kernel_rfl)) rfl ?_
     exact ⟨_, rfl, Kd.R_nil _ _ _ _ _, ((HBd.out.setCell GER.out _).setCell GER.out _).setCell GER.out _⟩
   · skip
     have d2 : (e != 0) = false := bne_eq_false_iff_eq.mpr c2
     have d3 : decide (sp < 20) = false := decide_eq_false c3
     clear c3
     have d4 : decide (ac < 20) = false := decide_eq_false c4
     clear c4
     have d5 : decide (je < 40) = true := decide_eq_true c5
     clear c5
     clear c2
     go_upto_region 4 with (first | (go_at_call 19; (with_reducible refine (swarfref49_Valid.calls sp ac je e _ VV.out).mono ?_); rintro e_ wv ⟨rfl, hb⟩; have n0_ := Aside0.mk (blk_below BKT.out hb); have n1_ := Aside0.mk (blk_below BKR.out hb); have n2_ := Aside0.mk (blk_below BKP.out hb); have n3_ := Aside0.mk (blk_below BKX.out hb); have n4_ := Aside0.mk (below_step (HB.out) hb); clear BKT BKR BKP BKX HB; have BKT := n0_; have BKR := n1_; have BKP := n2_; have BKX := n3_; have HB := n4_; clear n0_ n1_ n2_ n3_ n4_ hb; obtain ⟨hq5X0, hq5X1, hq5X2⟩ := cells3 BKX.out; have hfzq5_X_0 := blk_frozen BKX.out 0; have hfzq5_X_1 := blk_frozen BKX.out 1; have hfzq5_X_2 := blk_frozen BKX.out 2))
     refine start_ (n := 4) (S := fun w' => Below wv.heap.size wv w' ∧ w'.cell? ⟨gbX, 0, none⟩ = some (.int .i64 sp) ∧ w'.cell? ⟨gbX, 1, none⟩ = some (.int .i64 ac) ∧ w'.cell? ⟨gbX, 2, none⟩ = some (.int .i64 je)) (ds := [2]) #[false, false, false, false] (by kernel_rfl) rfl rfl ⟨below_drew (Below.refl _ _), pw_cell_below (below_drew (Below.refl _ _)) hq5X0, pw_cell_below (below_drew (Below.refl _ _)) hq5X1, pw_cell_below (below_drew (Below.refl _ _)) hq5X2⟩ (fun hHeld => ?_)
     generalize World.drew _ = wd at hHeld ⊢
     refine pu 1 2 (bzz 4 2) (by kernel_rfl) ?_
     refine ta 0 60 (bzz 4 3) (by kernel_rfl) hHeld ?_
     refine last_ (i := 2) (N := none) (bzz 4 7) rfl rfl (by kernel_rfl) (by decide) (fun K hK => ?_)
     have BKR3 := Aside0.mk (blk_below BKR.out hHeld.1)
     have hR0 : wd.cell? ⟨gbR, 0, none⟩ = some (.int .i64 0) := (blk_cell BKR3.out 0).trans rfl
     have hR1 : wd.cell? ⟨gbR, 1, none⟩ = some (.int .i64 0) := (blk_cell BKR3.out 1).trans rfl
     have hR2 : wd.cell? ⟨gbR, 2, none⟩ = some (.int .i64 0) := (blk_cell BKR3.out 2).trans rfl
     have hRf0 := blk_frozen BKR3.out 0
     have hRf1 := blk_frozen BKR3.out 1
     have hRf2 := blk_frozen BKR3.out 2
     refine skip_ (w1 := ?_) (by rfl) rfl ?_ ?_
     rotate_left
     · go_simp
       rfl
     refine hK.out _ _ ?_
     clear hK K
     refine pu 3 4 (bzz 4 15) (by kernel_rfl) ?_
     refine done_ (by kernel_rfl) ?_
     have HBd := Aside0.mk (below_step HB.out hHeld.1)
     have BKR3 := Aside0.mk (blk_below BKR.out hHeld.1)
     go_wp2
     refine bodyPost_ret (results_tct rfl _ _ gbR 31 #[.int .i64 sp, .int .i64 ac, .int .i64 je] (0, 0) _ rfl (by refine blk_put (cs := #[.int .i64 sp, .int .i64 ac, .int .i64 0]) ?_ 2 _ rfl; refine blk_put (cs := #[.int .i64 sp, .int .i64 0, .int .i64 0]) ?_ 1 _ rfl; refine blk_put (cs := #[.int .i64 0, .int .i64 0, .int .i64 0]) ?_ 0 _ rfl; exact BKR3.out) hu31 rfl (by kernel_rfl)) rfl ?_
     exact ⟨_, rfl, Kd.R_nil _ _ _ _ _, ((HBd.out.setCell GER.out _).setCell GER.out _).setCell GER.out _⟩
   · skip
     have d2 : (e != 0) = false := bne_eq_false_iff_eq.mpr c2
     have d3 : decide (sp < 20) = false := decide_eq_false c3
     clear c3
     have d4 : decide (ac < 20) = false := decide_eq_false c4
     clear c4
     have d5 : decide (je < 40) = false := decide_eq_false c5
     clear c5
     clear c2
     have HM := Aside0.mk h
     clear h
     go_upto_block 0 with (first | (go_at_call 19; (with_reducible refine (swarfref49_Valid.calls sp ac je e _ VV.out).mono ?_); rintro e_ wv ⟨rfl, hb⟩; have n0_ := Aside0.mk (blk_below BKT.out hb); have n1_ := Aside0.mk (blk_below BKR.out hb); have n2_ := Aside0.mk (blk_below BKP.out hb); have n3_ := Aside0.mk (blk_below BKX.out hb); have n4_ := Aside0.mk (below_step (HB.out) hb); clear BKT BKR BKP BKX HB; have BKT := n0_; have BKR := n1_; have BKP := n2_; have BKX := n3_; have HB := n4_; clear n0_ n1_ n2_ n3_ n4_ hb; obtain ⟨hq6T0, hq6T1, hq6T2, hq6T3, hq6T4, hq6T5, hq6T6⟩ := cells7 BKT.out; obtain ⟨hq6X0, hq6X1, hq6X2⟩ := cells3 BKX.out; have hfzq6_X_0 := blk_frozen BKX.out 0; have hfzq6_X_1 := blk_frozen BKX.out 1; have hfzq6_X_2 := blk_frozen BKX.out 2))
     go_wp2_with (fail)
     go_loopg [7, 64] k (fun kq v7 v64 w' => ∃ (i x y z : Int) (ol : List S55), v64 = .int .i64 i ∧ Aside0 (MotP kq ws i x y z ol res) ∧ Aside0 (kq ≤ k) ∧ Aside0 (Kd.R k55 55 w' w.heap.size (fun k => (k ≠ gbP ∧ k ≠ gbX) ∧ k ≠ gbR) v7 ol) ∧ Aside0 (w'.heap[gbP]? = some (.cells #[.int .i64 x, .int .i64 y, .int .i64 z] 42 (0, 0))) ∧ Aside0 (w'.heap[gbX]? = some (.cells #[.int .i64 sp, .int .i64 ac, .int .i64 je] 31 (0, 0))) ∧ Aside0 (w'.heap[gbR]? = some (.cells #[.int .i64 0, .int .i64 0, .int .i64 0] 31 (0, 0))) ∧ Aside0 (Below w.heap.size w w'))
     case atStart => exact ⟨0, _, _, _, [], rfl, HM, ⟨Nat.le_refl _⟩, ⟨Kd.R_nil _ _ _ _ _⟩, BKP, BKX, BKR, HB⟩
     case round =>
      clear HM BKP BKX BKR BKT HB
      obtain ⟨i, x, y, z, ol, rfl, HM, HK, HO, BKP, BKX, BKR, HB⟩ := hrel
      cases gk with
      | zero => exact absurd HM.out (by simp [MotP])
      | succ k1 =>
       have h := HM.out
       clear HM
       simp only [MotP] at h
       by_cases c1 : i < (ws.length : Int)
       · rw [if_pos c1] at h
         have c1b : decide (i < (ws.length : Int)) = true := decide_eq_true c1
         obtain ⟨i0, hlen, h⟩ := h
         obtain ⟨ad, ea_, hx0, hx1, hx2, hx3⟩ := at_T52 (Kd.C_below HR.out HB.out) i i0 c1
         subst ea_
         replace i0 := eq_true i0
         replace c1 := eq_true c1
         have HL := Aside0.mk hlen
         clear hlen
         have HM := Aside0.mk h
         clear h
         obtain ⟨Ao, co, eo⟩ := Kd.R_slice HO.out
         subst eo
         have HW := Aside0.mk (Below.refl wr.heap.size wr)
         go_upto_region 9 with (first | ((with_reducible refine gate_dst (N := 9) rfl ?_); refine box_event ?hg (N := 9) ?hd (cs := #[.int .i16 0, .int .i16 0, .int .i16 0, .int .i16 0]) (t := 52) ?hr ?_; (case hd => rfl); (case hg => rfl); (case hr => first | (go_simp; done) | (go_simp; rfl)); intro qa hg w9 hbox hb; have n_ := Aside0.mk (below_step HW.out hb); have HGqa : Aside0 (wr.heap.size ≤ qa) := ⟨(by rw [hg]; exact below_size HW.out)⟩; clear HW; have HW := n_; clear n_; have BKqa := Aside0.mk hbox; clear hg hbox hb; have hqa0 : w9.cell? ⟨qa, 0, none⟩ = some (.int .i16 0) := (blk_cell BKqa.out 0).trans rfl; have hqa1 : w9.cell? ⟨qa, 1, none⟩ = some (.int .i16 0) := (blk_cell BKqa.out 1).trans rfl; have hqa2 : w9.cell? ⟨qa, 2, none⟩ = some (.int .i16 0) := (blk_cell BKqa.out 2).trans rfl; have hqa3 : w9.cell? ⟨qa, 3, none⟩ = some (.int .i16 0) := (blk_cell BKqa.out 3).trans rfl; have hqaf0 := blk_frozen BKqa.out 0; have hqaf1 := blk_frozen BKqa.out 1; have hqaf2 := blk_frozen BKqa.out 2; have hqaf3 := blk_frozen BKqa.out 3))
         generalize hq9 : World.setCell _ _ _ = wa9
         have n_ : Aside0 (wa9.heap[qa]? = some (.cells #[.int .i16 (rd_T52 ws i).f0, .int .i16 (rd_T52 ws i).f1, .int .i16 (rd_T52 ws i).f2, .int .i16 (rd_T52 ws i).f3] 52 (0, 0))) := ⟨by rw [← hq9]; refine blk_put (cs := #[.int .i16 (rd_T52 ws i).f0, .int .i16 (rd_T52 ws i).f1, .int .i16 (rd_T52 ws i).f2, .int .i16 0]) ?_ 3 _ rfl; refine blk_put (cs := #[.int .i16 (rd_T52 ws i).f0, .int .i16 (rd_T52 ws i).f1, .int .i16 0, .int .i16 0]) ?_ 2 _ rfl; refine blk_put (cs := #[.int .i16 (rd_T52 ws i).f0, .int .i16 0, .int .i16 0, .int .i16 0]) ?_ 1 _ rfl; refine blk_put (cs := #[.int .i16 0, .int .i16 0, .int .i16 0, .int .i16 0]) ?_ 0 _ rfl; exact BKqa.out⟩
         have nw_ : Aside0 (Below wr.heap.size wr wa9) := ⟨by rw [← hq9]; exact ((((HW.out.setCell HGqa.out _).setCell HGqa.out _).setCell HGqa.out _).setCell HGqa.out _)⟩
         clear hq9 HW BKqa 
         have HW := nw_
         have BKqa := n_
         clear nw_ n_
         clear hqa0 hqaf0 hqa1 hqaf1 hqa2 hqaf2 hqa3 hqaf3
         clear hx0 hx1 hx2 hx3
         have hqa0 : wa9.cell? ⟨qa, 0, none⟩ = some (.int .i16 (rd_T52 ws i).f0) := (blk_cell BKqa.out 0).trans rfl
         have hqa1 : wa9.cell? ⟨qa, 1, none⟩ = some (.int .i16 (rd_T52 ws i).f1) := (blk_cell BKqa.out 1).trans rfl
         have hqa2 : wa9.cell? ⟨qa, 2, none⟩ = some (.int .i16 (rd_T52 ws i).f2) := (blk_cell BKqa.out 2).trans rfl
         have hqa3 : wa9.cell? ⟨qa, 3, none⟩ = some (.int .i16 (rd_T52 ws i).f3) := (blk_cell BKqa.out 3).trans rfl
         go_upto_region 10 with (first | ((with_reducible refine gate_dst (N := 10) rfl ?_); refine box_event ?hg (N := 10) ?hd (cs := #[.int .i64 0, .int .i64 0, .int .i64 0]) (t := 42) ?hr ?_; (case hd => rfl); (case hg => rfl); (case hr => first | (go_simp; done) | (go_simp; rfl)); intro qb hg w10 hbox hb; have n_ := Aside0.mk (below_step HW.out hb); have HGqb : Aside0 (wr.heap.size ≤ qb) := ⟨(by rw [hg]; exact below_size HW.out)⟩; clear HW; have HW := n_; clear n_; have NEqaqb : qa ≠ qb := (by rw [hg]; exact Nat.ne_of_lt (blk_lt BKqa.out)); have n_ := Aside0.mk (blk_below BKqa.out hb); clear BKqa; have BKqa := n_; clear n_; have BKqb := Aside0.mk hbox; clear hg hbox hb; have hqb0 : w10.cell? ⟨qb, 0, none⟩ = some (.int .i64 0) := (blk_cell BKqb.out 0).trans rfl; have hqb1 : w10.cell? ⟨qb, 1, none⟩ = some (.int .i64 0) := (blk_cell BKqb.out 1).trans rfl; have hqb2 : w10.cell? ⟨qb, 2, none⟩ = some (.int .i64 0) := (blk_cell BKqb.out 2).trans rfl; have hqbf0 := blk_frozen BKqb.out 0; have hqbf1 := blk_frozen BKqb.out 1; have hqbf2 := blk_frozen BKqb.out 2))
         generalize hq9 : World.setCell _ _ _ = wf
         have n_ : Aside0 (wf.heap[qb]? = some (.cells #[.int .i64 (wrap64 (Int.tmod (rd_T52 ws i).f0 600)), .int .i64 (wrap64 (Int.tmod (rd_T52 ws i).f1 600)), .int .i64 (wrap64 (Int.tmod (rd_T52 ws i).f2 600))] 42 (0, 0))) := ⟨by rw [← hq9]; refine blk_put (cs := #[.int .i64 (wrap64 (Int.tmod (rd_T52 ws i).f0 600)), .int .i64 (wrap64 (Int.tmod (rd_T52 ws i).f1 600)), .int .i64 0]) ?_ 2 _ rfl; refine blk_put (cs := #[.int .i64 (wrap64 (Int.tmod (rd_T52 ws i).f0 600)), .int .i64 0, .int .i64 0]) ?_ 1 _ rfl; refine blk_put (cs := #[.int .i64 0, .int .i64 0, .int .i64 0]) ?_ 0 _ rfl; exact BKqb.out⟩
         have nqa_ : Aside0 (wf.heap[qa]? = some (.cells #[.int .i16 (rd_T52 ws i).f0, .int .i16 (rd_T52 ws i).f1, .int .i16 (rd_T52 ws i).f2, .int .i16 (rd_T52 ws i).f3] 52 (0, 0))) := ⟨by rw [← hq9]; refine blk_far ?_ NEqaqb _; refine blk_far ?_ NEqaqb _; refine blk_far ?_ NEqaqb _; exact BKqa.out⟩
         have nw_ : Aside0 (Below wr.heap.size wr wf) := ⟨by rw [← hq9]; exact (((HW.out.setCell HGqb.out _).setCell HGqb.out _).setCell HGqb.out _)⟩
         clear hq9 HW BKqb BKqa
         have HW := nw_
         have BKqb := n_
         clear nw_ n_
         have BKqa := nqa_
         clear nqa_
         clear hqb0 hqbf0 hqb1 hqbf1 hqb2 hqbf2
         clear hqa0 hqa1 hqa2 hqa3
         have hqb0 : wf.cell? ⟨qb, 0, none⟩ = some (.int .i64 (wrap64 (Int.tmod (rd_T52 ws i).f0 600))) := (blk_cell BKqb.out 0).trans rfl
         have hqb1 : wf.cell? ⟨qb, 1, none⟩ = some (.int .i64 (wrap64 (Int.tmod (rd_T52 ws i).f1 600))) := (blk_cell BKqb.out 1).trans rfl
         have hqb2 : wf.cell? ⟨qb, 2, none⟩ = some (.int .i64 (wrap64 (Int.tmod (rd_T52 ws i).f2 600))) := (blk_cell BKqb.out 2).trans rfl
         have hqa3 : wf.cell? ⟨qa, 3, none⟩ = some (.int .i16 (rd_T52 ws i).f3) := (blk_cell BKqa.out 3).trans rfl
         have BKPw := blk_below BKP.out HW.out
         have hP0 : wf.cell? ⟨gbP, 0, none⟩ = some (.int .i64 x) := (blk_cell BKPw 0).trans rfl
         have hP1 : wf.cell? ⟨gbP, 1, none⟩ = some (.int .i64 y) := (blk_cell BKPw 1).trans rfl
         have hP2 : wf.cell? ⟨gbP, 2, none⟩ = some (.int .i64 z) := (blk_cell BKPw 2).trans rfl
         clear BKPw
         refine start_ (n := 16) (S := fun w' => Below wf.heap.size wf w' ∧ w'.cell? ⟨gbP, 0, none⟩ = some (.int .i64 x) ∧ w'.cell? ⟨gbP, 1, none⟩ = some (.int .i64 y) ∧ w'.cell? ⟨gbP, 2, none⟩ = some (.int .i64 z) ∧ w'.cell? ⟨qb, 0, none⟩ = some (.int .i64 (wrap64 (Int.tmod (rd_T52 ws i).f0 600))) ∧ w'.cell? ⟨qb, 1, none⟩ = some (.int .i64 (wrap64 (Int.tmod (rd_T52 ws i).f1 600))) ∧ w'.cell? ⟨qb, 2, none⟩ = some (.int .i64 (wrap64 (Int.tmod (rd_T52 ws i).f2 600))) ∧ w'.cell? ⟨qa, 3, none⟩ = some (.int .i16 (rd_T52 ws i).f3)) (ds := [15]) #[false, false, false, false, false, false, false, false, false, false, false, false, false, false, false, false] (by kernel_rfl) rfl rfl ⟨below_drew (Below.refl _ _), pw_cell_below (below_drew (Below.refl _ _)) hP0, pw_cell_below (below_drew (Below.refl _ _)) hP1, pw_cell_below (below_drew (Below.refl _ _)) hP2, pw_cell_below (below_drew (Below.refl _ _)) hqb0, pw_cell_below (below_drew (Below.refl _ _)) hqb1, pw_cell_below (below_drew (Below.refl _ _)) hqb2, pw_cell_below (below_drew (Below.refl _ _)) hqa3⟩ (fun hHeld => ?_)
         generalize World.drew _ = wd at hHeld ⊢
         refine pu 4 86 (bzz 16 16) (by kernel_rfl) ?_
         refine pu 9 91 (bzz 16 528) (by kernel_rfl) ?_
         refine pu 10 92 (bzz 16 1552) (by kernel_rfl) ?_
         refine pu 11 93 (bzz 16 3600) (by kernel_rfl) ?_
         refine pu 12 94 (bzz 16 7696) (by kernel_rfl) ?_
         refine ta 0 82 (bzz 16 7697) (by kernel_rfl) hHeld ?_
         refine ta 1 83 (bzz 16 7699) (by kernel_rfl) hHeld ?_
         refine ta 2 84 (bzz 16 7703) (by kernel_rfl) hHeld ?_
         refine ta 5 87 (bzz 16 7735) (by kernel_rfl) hHeld ?_
         refine pu 6 88 (bzz 16 7799) (by kernel_rfl) ?_
         refine pu 7 89 (bzz 16 7927) (by kernel_rfl) ?_
         refine pu 8 90 (bzz 16 8183) (by kernel_rfl) ?_
         refine join_ (σ := Nat) 1 #[true, true, true, true, true, true, true, true, true, true, true, true, true, true, true, false] (fun s_ => [(85, .agg #[.int .i64 (wrap64 (x + (wrap64 (Int.tmod (rd_T52 ws i).f0 600)))), .int .i64 (wrap64 (y + (wrap64 (Int.tmod (rd_T52 ws i).f1 600)))), .int .i64 (wrap64 (z + (wrap64 (Int.tmod (rd_T52 ws i).f2 600))))]), (95, .agg #[.int .i64 x, .int .i64 y, .int .i64 z, .int .i64 (wrap64 (x + (wrap64 (Int.tmod (rd_T52 ws i).f0 600)))), .int .i64 (wrap64 (y + (wrap64 (Int.tmod (rd_T52 ws i).f1 600)))), .int .i64 (wrap64 (z + (wrap64 (Int.tmod (rd_T52 ws i).f2 600)))), .int .i64 (wrap64 (1000 * (if 0 < wrap64 (rd_T52 ws i).f3 then wrap64 (rd_T52 ws i).f3 else 0))), .int .i64 (wrap64 (1 + (wrap64 (Int.tdiv i 2)))), .int .i64 i]), (11, .pointer (some ⟨s_, 0, none⟩))]) (fun s_ w' => (Below wf.heap.size wf w' ∧ w'.cell? ⟨gbP, 0, none⟩ = some (.int .i64 x) ∧ w'.cell? ⟨gbP, 1, none⟩ = some (.int .i64 y) ∧ w'.cell? ⟨gbP, 2, none⟩ = some (.int .i64 z) ∧ w'.cell? ⟨qb, 0, none⟩ = some (.int .i64 (wrap64 (Int.tmod (rd_T52 ws i).f0 600))) ∧ w'.cell? ⟨qb, 1, none⟩ = some (.int .i64 (wrap64 (Int.tmod (rd_T52 ws i).f1 600))) ∧ w'.cell? ⟨qb, 2, none⟩ = some (.int .i64 (wrap64 (Int.tmod (rd_T52 ws i).f2 600))) ∧ w'.cell? ⟨qa, 3, none⟩ = some (.int .i16 (rd_T52 ws i).f3)) ∧ w'.heap[s_]? = some (.cells #[.int .i64 0, .int .i64 0, .int .i64 0, .int .i64 0, .int .i64 0, .int .i64 0, .int .i64 0, .int .i64 0, .int .i64 0] 55 (0, 0)) ∧ wf.heap.size ≤ s_) ?_ ?_
         rotate_left
         · intro hCont
           refine two_ (i := 3) (j := 14) (Ni := some 85) (Nj := some 11) #[true, true, true, true, true, true, true, true, true, true, true, true, true, false, false, false] #[true, true, true, false, true, true, true, true, true, true, true, true, true, false, true, false] rfl rfl rfl rfl (by kernel_rfl) (by decide) (by decide) (fun K hK => ?_) (fun K hK => ?_)
           · skip
             refine goes_ Try.func20 (by kernel_rfl) rfl #[.agg #[.int .i64 x, .int .i64 y, .int .i64 z], .agg #[.int .i64 (wrap64 (Int.tmod (rd_T52 ws i).f0 600)), .int .i64 (wrap64 (Int.tmod (rd_T52 ws i).f1 600)), .int .i64 (wrap64 (Int.tmod (rd_T52 ws i).f2 600))]] (by rfl) rfl rfl (by simp only [List.map_toArray, List.map_cons, List.map_nil]; rfl) ?_
             with_reducible refine (swarftop_plus51.calls x y z (wrap64 (Int.tmod (rd_T52 ws i).f0 600)) (wrap64 (Int.tmod (rd_T52 ws i).f1 600)) (wrap64 (Int.tmod (rd_T52 ws i).f2 600)) _ _ _ _ rfl).mono ?_
             rintro e3 w3 ⟨rfl, hb⟩
             refine ⟨_, rfl, ?_⟩
             refine hK.out _ _ ⟨below_step hHeld.1 hb, pw_cell_below (below_step hHeld.1 hb) hP0, pw_cell_below (below_step hHeld.1 hb) hP1, pw_cell_below (below_step hHeld.1 hb) hP2, pw_cell_below (below_step hHeld.1 hb) hqb0, pw_cell_below (below_step hHeld.1 hb) hqb1, pw_cell_below (below_step hHeld.1 hb) hqb2, pw_cell_below (below_step hHeld.1 hb) hqa3⟩ (fun hHeld => ?_)
             clear hK K
             refine norm_ (a' := ?_) ?_ ?_
             rotate_left
             · show Act.put _ (some 85) _ = _
               simp only [Act.put, List.setIfInBounds_toArray, List.set_cons_zero, List.set_cons_succ, i64_w, i32_w]
               rfl
             refine pu 13 95 (bzz 16 16383) (by kernel_rfl) ?_
             refine one_ (i := 14) (N := some 11) (bzz 16 32767) rfl rfl (by kernel_rfl) (by decide) (fun K hK => ?_)
             refine box_value (cs := #[.int .i64 0, .int .i64 0, .int .i64 0, .int .i64 0, .int .i64 0, .int .i64 0, .int .i64 0, .int .i64 0, .int .i64 0]) (t := 55) (by rfl) rfl ?_ ?_
             · first | (go_simp; done) | (go_simp; rfl)
             intro m hgp w3 hboxp hb
             have hgep : wf.heap.size ≤ m := by rw [hgp]; exact hHeld.1.size
             clear hgp
             refine hK.out _ _ ⟨below_step hHeld.1 hb, pw_cell_below (below_step hHeld.1 hb) hP0, pw_cell_below (below_step hHeld.1 hb) hP1, pw_cell_below (below_step hHeld.1 hb) hP2, pw_cell_below (below_step hHeld.1 hb) hqb0, pw_cell_below (below_step hHeld.1 hb) hqb1, pw_cell_below (below_step hHeld.1 hb) hqb2, pw_cell_below (below_step hHeld.1 hb) hqa3⟩ (fun hHeld => ?_)
             clear hK K
             refine norm_ (a' := ?_) ?_ ?_
             rotate_left
             · show Act.put _ (some 11) _ = _
               simp only [Act.put, List.setIfInBounds_toArray, List.set_cons_zero, List.set_cons_succ, i64_w, i32_w]
               rfl
             exact norm_ (by simp only [putAll, Act.put, List.setIfInBounds_toArray, List.set_cons_zero, List.set_cons_succ]) (hCont m _ ⟨hHeld, hboxp, hgep⟩)
           · skip
             refine box_value (cs := #[.int .i64 0, .int .i64 0, .int .i64 0, .int .i64 0, .int .i64 0, .int .i64 0, .int .i64 0, .int .i64 0, .int .i64 0]) (t := 55) (by rfl) rfl ?_ ?_
             · first | (go_simp; done) | (go_simp; rfl)
             intro m hgp w3 hboxp hb
             have hgep : wf.heap.size ≤ m := by rw [hgp]; exact hHeld.1.size
             clear hgp
             refine hK.out _ _ ⟨below_step hHeld.1 hb, pw_cell_below (below_step hHeld.1 hb) hP0, pw_cell_below (below_step hHeld.1 hb) hP1, pw_cell_below (below_step hHeld.1 hb) hP2, pw_cell_below (below_step hHeld.1 hb) hqb0, pw_cell_below (below_step hHeld.1 hb) hqb1, pw_cell_below (below_step hHeld.1 hb) hqb2, pw_cell_below (below_step hHeld.1 hb) hqa3⟩ (fun hHeld => ?_)
             clear hK K
             refine norm_ (a' := ?_) ?_ ?_
             rotate_left
             · show Act.put _ (some 11) _ = _
               simp only [Act.put, List.setIfInBounds_toArray, List.set_cons_zero, List.set_cons_succ, i64_w, i32_w]
               rfl
             refine one_ (i := 3) (N := some 85) (bzz 16 24575) rfl rfl (by kernel_rfl) (by decide) (fun K hK => ?_)
             refine goes_ Try.func20 (by kernel_rfl) rfl #[.agg #[.int .i64 x, .int .i64 y, .int .i64 z], .agg #[.int .i64 (wrap64 (Int.tmod (rd_T52 ws i).f0 600)), .int .i64 (wrap64 (Int.tmod (rd_T52 ws i).f1 600)), .int .i64 (wrap64 (Int.tmod (rd_T52 ws i).f2 600))]] (by rfl) rfl rfl (by simp only [List.map_toArray, List.map_cons, List.map_nil]; rfl) ?_
             with_reducible refine (swarftop_plus51.calls x y z (wrap64 (Int.tmod (rd_T52 ws i).f0 600)) (wrap64 (Int.tmod (rd_T52 ws i).f1 600)) (wrap64 (Int.tmod (rd_T52 ws i).f2 600)) _ _ _ _ rfl).mono ?_
             rintro e3 w3 ⟨rfl, hb⟩
             refine ⟨_, rfl, ?_⟩
             have hboxp := blk_below hboxp hb
             refine hK.out _ _ ⟨below_step hHeld.1 hb, pw_cell_below (below_step hHeld.1 hb) hP0, pw_cell_below (below_step hHeld.1 hb) hP1, pw_cell_below (below_step hHeld.1 hb) hP2, pw_cell_below (below_step hHeld.1 hb) hqb0, pw_cell_below (below_step hHeld.1 hb) hqb1, pw_cell_below (below_step hHeld.1 hb) hqb2, pw_cell_below (below_step hHeld.1 hb) hqa3⟩ (fun hHeld => ?_)
             clear hK K
             refine norm_ (a' := ?_) ?_ ?_
             rotate_left
             · show Act.put _ (some 85) _ = _
               simp only [Act.put, List.setIfInBounds_toArray, List.set_cons_zero, List.set_cons_succ, i64_w, i32_w]
               rfl
             refine pu 13 95 (bzz 16 32767) (by kernel_rfl) ?_
             exact norm_ (by simp only [putAll, Act.put, List.setIfInBounds_toArray, List.set_cons_zero, List.set_cons_succ]) (hCont m _ ⟨hHeld, hboxp, hgep⟩)
         rintro m wp ⟨hHeld, hboxp, hgep⟩
         have BKm := Aside0.mk hboxp
         have HGm : Aside0 (wr.heap.size ≤ m) := ⟨Nat.le_trans (below_size HW.out) hgep⟩
         have HWp := Aside0.mk (below_step HW.out hHeld.1)
         clear hboxp hgep HW
         have HW := HWp
         clear HWp
         have hm0 : wp.cell? ⟨m, 0, none⟩ = some (.int .i64 0) := (blk_cell BKm.out 0).trans rfl
         have hm1 : wp.cell? ⟨m, 1, none⟩ = some (.int .i64 0) := (blk_cell BKm.out 1).trans rfl
         have hm2 : wp.cell? ⟨m, 2, none⟩ = some (.int .i64 0) := (blk_cell BKm.out 2).trans rfl
         have hm3 : wp.cell? ⟨m, 3, none⟩ = some (.int .i64 0) := (blk_cell BKm.out 3).trans rfl
         have hm4 : wp.cell? ⟨m, 4, none⟩ = some (.int .i64 0) := (blk_cell BKm.out 4).trans rfl
         have hm5 : wp.cell? ⟨m, 5, none⟩ = some (.int .i64 0) := (blk_cell BKm.out 5).trans rfl
         have hm6 : wp.cell? ⟨m, 6, none⟩ = some (.int .i64 0) := (blk_cell BKm.out 6).trans rfl
         have hm7 : wp.cell? ⟨m, 7, none⟩ = some (.int .i64 0) := (blk_cell BKm.out 7).trans rfl
         have hm8 : wp.cell? ⟨m, 8, none⟩ = some (.int .i64 0) := (blk_cell BKm.out 8).trans rfl
         have hmf0 := blk_frozen BKm.out 0
         have hmf1 := blk_frozen BKm.out 1
         have hmf2 := blk_frozen BKm.out 2
         have hmf3 := blk_frozen BKm.out 3
         have hmf4 := blk_frozen BKm.out 4
         have hmf5 := blk_frozen BKm.out 5
         have hmf6 := blk_frozen BKm.out 6
         have hmf7 := blk_frozen BKm.out 7
         have hmf8 := blk_frozen BKm.out 8
         refine norm_ (a' := ?_) ?_ ?_
         rotate_left
         · simp only [putAll, Act.put, List.setIfInBounds_toArray, List.set_cons_zero, List.set_cons_succ]
           rfl
         refine last_ (i := 15) (N := none) (bzz 16 65535) rfl rfl (by kernel_rfl) (by decide) (fun K hK => ?_)
         refine skip_ (w1 := ?_) (by rfl) rfl ?_ ?_
         rotate_left
         · go_simp
           rfl
         refine hK.out _ _ ?_
         clear hK K
         refine done_ (by kernel_rfl) ?_
         clear hHeld BKqa BKqb hP0 hP1 hP2 hqb0 hqb1 hqb2 hqa3
         generalize hm0_ : (if 0 < wrap64 (rd_T52 ws i).f3 then wrap64 (rd_T52 ws i).f3 else 0) = m0 at HM ⊢
         clear hm0_
         generalize hq9 : World.setCell _ _ _ = wh
         have n_ : Aside0 (wh.heap[m]? = some (.cells #[.int .i64 x, .int .i64 y, .int .i64 z, .int .i64 (wrap64 (x + (wrap64 (Int.tmod (rd_T52 ws i).f0 600)))), .int .i64 (wrap64 (y + (wrap64 (Int.tmod (rd_T52 ws i).f1 600)))), .int .i64 (wrap64 (z + (wrap64 (Int.tmod (rd_T52 ws i).f2 600)))), .int .i64 (wrap64 (1000 * m0)), .int .i64 (wrap64 (1 + (wrap64 (Int.tdiv i 2)))), .int .i64 i] 55 (0, 0))) := ⟨by rw [← hq9]; refine blk_put (cs := #[.int .i64 x, .int .i64 y, .int .i64 z, .int .i64 (wrap64 (x + (wrap64 (Int.tmod (rd_T52 ws i).f0 600)))), .int .i64 (wrap64 (y + (wrap64 (Int.tmod (rd_T52 ws i).f1 600)))), .int .i64 (wrap64 (z + (wrap64 (Int.tmod (rd_T52 ws i).f2 600)))), .int .i64 (wrap64 (1000 * m0)), .int .i64 (wrap64 (1 + (wrap64 (Int.tdiv i 2)))), .int .i64 0]) ?_ 8 _ rfl; refine blk_put (cs := #[.int .i64 x, .int .i64 y, .int .i64 z, .int .i64 (wrap64 (x + (wrap64 (Int.tmod (rd_T52 ws i).f0 600)))), .int .i64 (wrap64 (y + (wrap64 (Int.tmod (rd_T52 ws i).f1 600)))), .int .i64 (wrap64 (z + (wrap64 (Int.tmod (rd_T52 ws i).f2 600)))), .int .i64 (wrap64 (1000 * m0)), .int .i64 0, .int .i64 0]) ?_ 7 _ rfl; refine blk_put (cs := #[.int .i64 x, .int .i64 y, .int .i64 z, .int .i64 (wrap64 (x + (wrap64 (Int.tmod (rd_T52 ws i).f0 600)))), .int .i64 (wrap64 (y + (wrap64 (Int.tmod (rd_T52 ws i).f1 600)))), .int .i64 (wrap64 (z + (wrap64 (Int.tmod (rd_T52 ws i).f2 600)))), .int .i64 0, .int .i64 0, .int .i64 0]) ?_ 6 _ rfl; refine blk_put (cs := #[.int .i64 x, .int .i64 y, .int .i64 z, .int .i64 (wrap64 (x + (wrap64 (Int.tmod (rd_T52 ws i).f0 600)))), .int .i64 (wrap64 (y + (wrap64 (Int.tmod (rd_T52 ws i).f1 600)))), .int .i64 0, .int .i64 0, .int .i64 0, .int .i64 0]) ?_ 5 _ rfl; refine blk_put (cs := #[.int .i64 x, .int .i64 y, .int .i64 z, .int .i64 (wrap64 (x + (wrap64 (Int.tmod (rd_T52 ws i).f0 600)))), .int .i64 0, .int .i64 0, .int .i64 0, .int .i64 0, .int .i64 0]) ?_ 4 _ rfl; refine blk_put (cs := #[.int .i64 x, .int .i64 y, .int .i64 z, .int .i64 0, .int .i64 0, .int .i64 0, .int .i64 0, .int .i64 0, .int .i64 0]) ?_ 3 _ rfl; refine blk_put (cs := #[.int .i64 x, .int .i64 y, .int .i64 0, .int .i64 0, .int .i64 0, .int .i64 0, .int .i64 0, .int .i64 0, .int .i64 0]) ?_ 2 _ rfl; refine blk_put (cs := #[.int .i64 x, .int .i64 0, .int .i64 0, .int .i64 0, .int .i64 0, .int .i64 0, .int .i64 0, .int .i64 0, .int .i64 0]) ?_ 1 _ rfl; refine blk_put (cs := #[.int .i64 0, .int .i64 0, .int .i64 0, .int .i64 0, .int .i64 0, .int .i64 0, .int .i64 0, .int .i64 0, .int .i64 0]) ?_ 0 _ rfl; exact BKm.out⟩
         have nw_ : Aside0 (Below wr.heap.size wr wh) := ⟨by rw [← hq9]; exact (((((((((HW.out.setCell HGm.out _).setCell HGm.out _).setCell HGm.out _).setCell HGm.out _).setCell HGm.out _).setCell HGm.out _).setCell HGm.out _).setCell HGm.out _).setCell HGm.out _)⟩
         clear hq9 HW BKm 
         have HW := nw_
         have BKm := n_
         clear nw_ n_
         clear hm0 hmf0 hm1 hmf1 hm2 hmf2 hm3 hmf3 hm4 hmf4 hm5 hmf5 hm6 hmf6 hm7 hmf7 hm8 hmf8
         have hm0 : wh.cell? ⟨m, 0, none⟩ = some (.int .i64 x) := (blk_cell BKm.out 0).trans rfl
         have hm1 : wh.cell? ⟨m, 1, none⟩ = some (.int .i64 y) := (blk_cell BKm.out 1).trans rfl
         have hm2 : wh.cell? ⟨m, 2, none⟩ = some (.int .i64 z) := (blk_cell BKm.out 2).trans rfl
         have hm3 : wh.cell? ⟨m, 3, none⟩ = some (.int .i64 (wrap64 (x + (wrap64 (Int.tmod (rd_T52 ws i).f0 600))))) := (blk_cell BKm.out 3).trans rfl
         have hm4 : wh.cell? ⟨m, 4, none⟩ = some (.int .i64 (wrap64 (y + (wrap64 (Int.tmod (rd_T52 ws i).f1 600))))) := (blk_cell BKm.out 4).trans rfl
         have hm5 : wh.cell? ⟨m, 5, none⟩ = some (.int .i64 (wrap64 (z + (wrap64 (Int.tmod (rd_T52 ws i).f2 600))))) := (blk_cell BKm.out 5).trans rfl
         have hm6 : wh.cell? ⟨m, 6, none⟩ = some (.int .i64 (wrap64 (1000 * m0))) := (blk_cell BKm.out 6).trans rfl
         have hm7 : wh.cell? ⟨m, 7, none⟩ = some (.int .i64 (wrap64 (1 + (wrap64 (Int.tdiv i 2))))) := (blk_cell BKm.out 7).trans rfl
         have hm8 : wh.cell? ⟨m, 8, none⟩ = some (.int .i64 i) := (blk_cell BKm.out 8).trans rfl
         have hmf6 := blk_frozen BKm.out 6
         by_cases c2 : (wrap64 (1000 * m0)) > 0
         · have c2b : decide (0 < (wrap64 (1000 * m0))) = true := decide_eq_true c2
           have h := HM.out
           clear HM
           have hRT : (if (wrap64 (1000 * m0)) > 0 then (if 20000 < (wrap64 (1000 * m0)) then (wrap64 (1000 * m0)) else 20000) else (wrap64 (1000 * m0))) = (if 20000 < (wrap64 (1000 * m0)) then (wrap64 (1000 * m0)) else 20000) := if_pos c2
           rw [hRT] at h
           have HM := Aside0.mk h
           clear h hRT c2
           go_upto_region 13 with (fail)
           generalize hm1_ : (if 20000 < (wrap64 (1000 * m0)) then (wrap64 (1000 * m0)) else 20000) = m1 at HM ⊢
           clear hm1_
           generalize hq9 : World.setCell _ _ _ = wi
           have n_ : Aside0 (wi.heap[m]? = some (.cells #[.int .i64 x, .int .i64 y, .int .i64 z, .int .i64 (wrap64 (x + (wrap64 (Int.tmod (rd_T52 ws i).f0 600)))), .int .i64 (wrap64 (y + (wrap64 (Int.tmod (rd_T52 ws i).f1 600)))), .int .i64 (wrap64 (z + (wrap64 (Int.tmod (rd_T52 ws i).f2 600)))), .int .i64 m1, .int .i64 (wrap64 (1 + (wrap64 (Int.tdiv i 2)))), .int .i64 i] 55 (0, 0))) := ⟨by rw [← hq9]; refine blk_put (cs := #[.int .i64 x, .int .i64 y, .int .i64 z, .int .i64 (wrap64 (x + (wrap64 (Int.tmod (rd_T52 ws i).f0 600)))), .int .i64 (wrap64 (y + (wrap64 (Int.tmod (rd_T52 ws i).f1 600)))), .int .i64 (wrap64 (z + (wrap64 (Int.tmod (rd_T52 ws i).f2 600)))), .int .i64 (wrap64 (1000 * m0)), .int .i64 (wrap64 (1 + (wrap64 (Int.tdiv i 2)))), .int .i64 i]) ?_ 6 _ rfl; exact BKm.out⟩
           have nw_ : Aside0 (Below wr.heap.size wr wi) := ⟨by rw [← hq9]; exact HW.out.setCell HGm.out _⟩
           clear hq9 HW BKm hm0 hm1 hm2 hm3 hm4 hm5 hm6 hm7 hm8 hmf6
           have HW := nw_
           have BKm := n_
           clear nw_ n_
           have hm0 : wi.cell? ⟨m, 0, none⟩ = some (.int .i64 x) := (blk_cell BKm.out 0).trans rfl
           have hm1 : wi.cell? ⟨m, 1, none⟩ = some (.int .i64 y) := (blk_cell BKm.out 1).trans rfl
           have hm2 : wi.cell? ⟨m, 2, none⟩ = some (.int .i64 z) := (blk_cell BKm.out 2).trans rfl
           have hm3 : wi.cell? ⟨m, 3, none⟩ = some (.int .i64 (wrap64 (x + (wrap64 (Int.tmod (rd_T52 ws i).f0 600))))) := (blk_cell BKm.out 3).trans rfl
           have hm4 : wi.cell? ⟨m, 4, none⟩ = some (.int .i64 (wrap64 (y + (wrap64 (Int.tmod (rd_T52 ws i).f1 600))))) := (blk_cell BKm.out 4).trans rfl
           have hm5 : wi.cell? ⟨m, 5, none⟩ = some (.int .i64 (wrap64 (z + (wrap64 (Int.tmod (rd_T52 ws i).f2 600))))) := (blk_cell BKm.out 5).trans rfl
           have hm6 : wi.cell? ⟨m, 6, none⟩ = some (.int .i64 m1) := (blk_cell BKm.out 6).trans rfl
           have hm7 : wi.cell? ⟨m, 7, none⟩ = some (.int .i64 (wrap64 (1 + (wrap64 (Int.tdiv i 2))))) := (blk_cell BKm.out 7).trans rfl
           have hm8 : wi.cell? ⟨m, 8, none⟩ = some (.int .i64 i) := (blk_cell BKm.out 8).trans rfl
           have hmf6 := blk_frozen BKm.out 6
           have HOd : Aside0 (Kd.R k55 55 wi w.heap.size (fun k => ((k ≠ gbP ∧ k ≠ gbX) ∧ k ≠ gbR) ∧ k ≠ m) (.slice Ao ol.length co) ol) := ⟨Kd.R_below (Kd.R_elderB HO.out m HGm.out) HW.out⟩
           have n_ := Aside0.mk (blk_below BKP.out HW.out)
           clear BKP
           have BKP := n_
           clear n_
           have n_ := Aside0.mk (blk_below BKX.out HW.out)
           clear BKX
           have BKX := n_
           clear n_
           have n_ := Aside0.mk (blk_below BKR.out HW.out)
           clear BKR
           have BKR := n_
           clear n_
           have n_ := Aside0.mk (below_step HB.out HW.out)
           clear HB
           have HB := n_
           clear n_ HO HW
           go_wp2_with (first | ((with_reducible refine gate_builtin (b := .append) (xs := #[.tmp 103, .tmp 105]) rfl ?_); at_builtin; refine Kd.R_append k55 (w0 := w) w.heap.size rfl (.tmp 103) (.tmp 105) 30 55 (.agg #[.int .i64 0, .int .i64 0, .int .i64 0, .int .i64 0, .int .i64 0, .int .i64 0, .int .i64 0, .int .i64 0, .int .i64 0]) 72 rfl Try.underlying30 info55 rfl (by decide) (by omega) (.slice Ao ol.length co) ol (⟨⟨x, y, z⟩, ⟨(wrap64 (x + (wrap64 (Int.tmod (rd_T52 ws i).f0 600)))), (wrap64 (y + (wrap64 (Int.tmod (rd_T52 ws i).f1 600)))), (wrap64 (z + (wrap64 (Int.tmod (rd_T52 ws i).f2 600))))⟩, m1, (wrap64 (1 + (wrap64 (Int.tdiv i 2)))), i⟩ : S55) [.int .i64 x, .int .i64 y, .int .i64 z, .int .i64 (wrap64 (x + (wrap64 (Int.tmod (rd_T52 ws i).f0 600)))), .int .i64 (wrap64 (y + (wrap64 (Int.tmod (rd_T52 ws i).f1 600)))), .int .i64 (wrap64 (z + (wrap64 (Int.tmod (rd_T52 ws i).f2 600)))), .int .i64 m1, .int .i64 (wrap64 (1 + (wrap64 (Int.tdiv i 2)))), .int .i64 i] (fun k => ((k ≠ gbP ∧ k ≠ gbX) ∧ k ≠ gbR) ∧ k ≠ m) (fun _ => False) rfl (by first | (go_simp; done) | (go_simp; rfl)) ?aP (fun _ hk => hk.elim) ?aF ?aO ?aB ?aS ?aL ?_; (case aP => exact k55_mkM _ _ _ _); (case aB => exact HB.out); (case aF => exact (fun k hk => ⟨⟨⟨Kd.freshB BKP.out k hk, Kd.freshB BKX.out k hk⟩, Kd.freshB BKR.out k hk⟩, Kd.freshB BKm.out k hk⟩)); (case aO => exact HOd.out); (case aS => exact (below_size HB.out)); (case aL => have := HL.out; omega); intro v9 w9 ho hb hg hat; have HO9 := Aside0.mk (Kd.R_mono ho (ok' := (fun k => (k ≠ gbP ∧ k ≠ gbX) ∧ k ≠ gbR)) (fun _ hk => hk.1)); have HB9 := Aside0.mk hb; have BKP9 := Aside0.mk (blk_grown BKP.out hg (fun e => (HOd.out.1 gbP e.symm).1.1.1 rfl)); have BKX9 := Aside0.mk (blk_grown BKX.out hg (fun e => (HOd.out.1 gbX e.symm).1.1.2 rfl)); have BKR9 := Aside0.mk (blk_grown BKR.out hg (fun e => (HOd.out.1 gbR e.symm).1.2 rfl)); have BKm9 := Aside0.mk (blk_grown BKm.out hg (fun e => (HOd.out.1 m e.symm).2 rfl)); clear ho hb hg hat BKP BKX BKR BKm HB HOd hm0 hm1 hm2 hm3 hm4 hm5 hm6 hm7 hm8 hmf6; have hm3 : w9.cell? ⟨m, 3, none⟩ = some (.int .i64 (wrap64 (x + (wrap64 (Int.tmod (rd_T52 ws i).f0 600))))) := (blk_cell BKm9.out 3).trans rfl; have hm4 : w9.cell? ⟨m, 4, none⟩ = some (.int .i64 (wrap64 (y + (wrap64 (Int.tmod (rd_T52 ws i).f1 600))))) := (blk_cell BKm9.out 4).trans rfl; have hm5 : w9.cell? ⟨m, 5, none⟩ = some (.int .i64 (wrap64 (z + (wrap64 (Int.tmod (rd_T52 ws i).f2 600))))) := (blk_cell BKm9.out 5).trans rfl; have hP0 : w9.cell? ⟨gbP, 0, none⟩ = some (.int .i64 x) := (blk_cell BKP9.out 0).trans rfl; have hP1 : w9.cell? ⟨gbP, 1, none⟩ = some (.int .i64 y) := (blk_cell BKP9.out 1).trans rfl; have hP2 : w9.cell? ⟨gbP, 2, none⟩ = some (.int .i64 z) := (blk_cell BKP9.out 2).trans rfl; have hPf0 := blk_frozen BKP9.out 0; have hPf1 := blk_frozen BKP9.out 1; have hPf2 := blk_frozen BKP9.out 2))
           generalize hq9 : World.setCell _ _ _ = we
           have BKP : Aside0 (we.heap[gbP]? = some (.cells #[.int .i64 (wrap64 (x + (wrap64 (Int.tmod (rd_T52 ws i).f0 600)))), .int .i64 (wrap64 (y + (wrap64 (Int.tmod (rd_T52 ws i).f1 600)))), .int .i64 (wrap64 (z + (wrap64 (Int.tmod (rd_T52 ws i).f2 600))))] 42 (0, 0))) := ⟨by rw [← hq9]; refine blk_put (cs := #[.int .i64 (wrap64 (x + (wrap64 (Int.tmod (rd_T52 ws i).f0 600)))), .int .i64 (wrap64 (y + (wrap64 (Int.tmod (rd_T52 ws i).f1 600)))), .int .i64 z]) ?_ 2 _ rfl; refine blk_put (cs := #[.int .i64 (wrap64 (x + (wrap64 (Int.tmod (rd_T52 ws i).f0 600)))), .int .i64 y, .int .i64 z]) ?_ 1 _ rfl; refine blk_put (cs := #[.int .i64 x, .int .i64 y, .int .i64 z]) ?_ 0 _ rfl; exact BKP9.out⟩
           have BKX : Aside0 (we.heap[gbX]? = some (.cells #[.int .i64 sp, .int .i64 ac, .int .i64 je] 31 (0, 0))) := ⟨by rw [← hq9]; refine blk_far ?_ NBX_P.out _; refine blk_far ?_ NBX_P.out _; refine blk_far ?_ NBX_P.out _; exact BKX9.out⟩
           have BKR : Aside0 (we.heap[gbR]? = some (.cells #[.int .i64 0, .int .i64 0, .int .i64 0] 31 (0, 0))) := ⟨by rw [← hq9]; refine blk_far ?_ NBR_P.out _; refine blk_far ?_ NBR_P.out _; refine blk_far ?_ NBR_P.out _; exact BKR9.out⟩
           have HB : Aside0 (Below w.heap.size w we) := ⟨by rw [← hq9]; exact ((HB9.out.setCell GEP.out _).setCell GEP.out _).setCell GEP.out _⟩
           have HO : Aside0 (Kd.R k55 55 we w.heap.size (fun k => (k ≠ gbP ∧ k ≠ gbX) ∧ k ≠ gbR) v9 (ol ++ [(⟨⟨x, y, z⟩, ⟨(wrap64 (x + (wrap64 (Int.tmod (rd_T52 ws i).f0 600)))), (wrap64 (y + (wrap64 (Int.tmod (rd_T52 ws i).f1 600)))), (wrap64 (z + (wrap64 (Int.tmod (rd_T52 ws i).f2 600))))⟩, m1, (wrap64 (1 + (wrap64 (Int.tdiv i 2)))), i⟩ : S55)])) := ⟨by rw [← hq9]; exact (Kd.R_far (Kd.R_far (Kd.R_far HO9.out (p := ⟨gbP, 0, none⟩) (fun _ hk => hk.1.1) _) (p := ⟨gbP, 1, none⟩) (fun _ hk => hk.1.1) _) (p := ⟨gbP, 2, none⟩) (fun _ hk => hk.1.1) _)⟩
           clear hq9 HO9 HB9 BKP9 BKX9 BKR9 BKm9 hm3 hm4 hm5 hP0 hP1 hP2 hPf0 hPf1 hPf2
           go_roundg k1
           case measure => have := HK.out; omega
           case rel => exact ⟨(wrap64 (i + 1)), _, _, _, _, (by first | rfl | (simp; done) | (simp [*]; done)), HM, ⟨by have := HK.out; omega⟩, HO, BKP, BKX, BKR, HB⟩
         · have c2b : decide (0 < (wrap64 (1000 * m0))) = false := decide_eq_false c2
           have h := HM.out
           clear HM
           have hRT : (if (wrap64 (1000 * m0)) > 0 then (if 20000 < (wrap64 (1000 * m0)) then (wrap64 (1000 * m0)) else 20000) else (wrap64 (1000 * m0))) = (wrap64 (1000 * m0)) := if_neg c2
           rw [hRT] at h
           have HM := Aside0.mk h
           clear h hRT c2
           have HOd : Aside0 (Kd.R k55 55 wh w.heap.size (fun k => ((k ≠ gbP ∧ k ≠ gbX) ∧ k ≠ gbR) ∧ k ≠ m) (.slice Ao ol.length co) ol) := ⟨Kd.R_below (Kd.R_elderB HO.out m HGm.out) HW.out⟩
           have n_ := Aside0.mk (blk_below BKP.out HW.out)
           clear BKP
           have BKP := n_
           clear n_
           have n_ := Aside0.mk (blk_below BKX.out HW.out)
           clear BKX
           have BKX := n_
           clear n_
           have n_ := Aside0.mk (blk_below BKR.out HW.out)
           clear BKR
           have BKR := n_
           clear n_
           have n_ := Aside0.mk (below_step HB.out HW.out)
           clear HB
           have HB := n_
           clear n_ HO HW
           go_wp2_with (first | ((with_reducible refine gate_builtin (b := .append) (xs := #[.tmp 103, .tmp 105]) rfl ?_); at_builtin; refine Kd.R_append k55 (w0 := w) w.heap.size rfl (.tmp 103) (.tmp 105) 30 55 (.agg #[.int .i64 0, .int .i64 0, .int .i64 0, .int .i64 0, .int .i64 0, .int .i64 0, .int .i64 0, .int .i64 0, .int .i64 0]) 72 rfl Try.underlying30 info55 rfl (by decide) (by omega) (.slice Ao ol.length co) ol (⟨⟨x, y, z⟩, ⟨(wrap64 (x + (wrap64 (Int.tmod (rd_T52 ws i).f0 600)))), (wrap64 (y + (wrap64 (Int.tmod (rd_T52 ws i).f1 600)))), (wrap64 (z + (wrap64 (Int.tmod (rd_T52 ws i).f2 600))))⟩, (wrap64 (1000 * m0)), (wrap64 (1 + (wrap64 (Int.tdiv i 2)))), i⟩ : S55) [.int .i64 x, .int .i64 y, .int .i64 z, .int .i64 (wrap64 (x + (wrap64 (Int.tmod (rd_T52 ws i).f0 600)))), .int .i64 (wrap64 (y + (wrap64 (Int.tmod (rd_T52 ws i).f1 600)))), .int .i64 (wrap64 (z + (wrap64 (Int.tmod (rd_T52 ws i).f2 600)))), .int .i64 (wrap64 (1000 * m0)), .int .i64 (wrap64 (1 + (wrap64 (Int.tdiv i 2)))), .int .i64 i] (fun k => ((k ≠ gbP ∧ k ≠ gbX) ∧ k ≠ gbR) ∧ k ≠ m) (fun _ => False) rfl (by first | (go_simp; done) | (go_simp; rfl)) ?aP (fun _ hk => hk.elim) ?aF ?aO ?aB ?aS ?aL ?_; (case aP => exact k55_mkM _ _ _ _); (case aB => exact HB.out); (case aF => exact (fun k hk => ⟨⟨⟨Kd.freshB BKP.out k hk, Kd.freshB BKX.out k hk⟩, Kd.freshB BKR.out k hk⟩, Kd.freshB BKm.out k hk⟩)); (case aO => exact HOd.out); (case aS => exact (below_size HB.out)); (case aL => have := HL.out; omega); intro v9 w9 ho hb hg hat; have HO9 := Aside0.mk (Kd.R_mono ho (ok' := (fun k => (k ≠ gbP ∧ k ≠ gbX) ∧ k ≠ gbR)) (fun _ hk => hk.1)); have HB9 := Aside0.mk hb; have BKP9 := Aside0.mk (blk_grown BKP.out hg (fun e => (HOd.out.1 gbP e.symm).1.1.1 rfl)); have BKX9 := Aside0.mk (blk_grown BKX.out hg (fun e => (HOd.out.1 gbX e.symm).1.1.2 rfl)); have BKR9 := Aside0.mk (blk_grown BKR.out hg (fun e => (HOd.out.1 gbR e.symm).1.2 rfl)); have BKm9 := Aside0.mk (blk_grown BKm.out hg (fun e => (HOd.out.1 m e.symm).2 rfl)); clear ho hb hg hat BKP BKX BKR BKm HB HOd hm0 hm1 hm2 hm3 hm4 hm5 hm6 hm7 hm8 hmf6; have hm3 : w9.cell? ⟨m, 3, none⟩ = some (.int .i64 (wrap64 (x + (wrap64 (Int.tmod (rd_T52 ws i).f0 600))))) := (blk_cell BKm9.out 3).trans rfl; have hm4 : w9.cell? ⟨m, 4, none⟩ = some (.int .i64 (wrap64 (y + (wrap64 (Int.tmod (rd_T52 ws i).f1 600))))) := (blk_cell BKm9.out 4).trans rfl; have hm5 : w9.cell? ⟨m, 5, none⟩ = some (.int .i64 (wrap64 (z + (wrap64 (Int.tmod (rd_T52 ws i).f2 600))))) := (blk_cell BKm9.out 5).trans rfl; have hP0 : w9.cell? ⟨gbP, 0, none⟩ = some (.int .i64 x) := (blk_cell BKP9.out 0).trans rfl; have hP1 : w9.cell? ⟨gbP, 1, none⟩ = some (.int .i64 y) := (blk_cell BKP9.out 1).trans rfl; have hP2 : w9.cell? ⟨gbP, 2, none⟩ = some (.int .i64 z) := (blk_cell BKP9.out 2).trans rfl; have hPf0 := blk_frozen BKP9.out 0; have hPf1 := blk_frozen BKP9.out 1; have hPf2 := blk_frozen BKP9.out 2))
           generalize hq9 : World.setCell _ _ _ = we
           have BKP : Aside0 (we.heap[gbP]? = some (.cells #[.int .i64 (wrap64 (x + (wrap64 (Int.tmod (rd_T52 ws i).f0 600)))), .int .i64 (wrap64 (y + (wrap64 (Int.tmod (rd_T52 ws i).f1 600)))), .int .i64 (wrap64 (z + (wrap64 (Int.tmod (rd_T52 ws i).f2 600))))] 42 (0, 0))) := ⟨by rw [← hq9]; refine blk_put (cs := #[.int .i64 (wrap64 (x + (wrap64 (Int.tmod (rd_T52 ws i).f0 600)))), .int .i64 (wrap64 (y + (wrap64 (Int.tmod (rd_T52 ws i).f1 600)))), .int .i64 z]) ?_ 2 _ rfl; refine blk_put (cs := #[.int .i64 (wrap64 (x + (wrap64 (Int.tmod (rd_T52 ws i).f0 600)))), .int .i64 y, .int .i64 z]) ?_ 1 _ rfl; refine blk_put (cs := #[.int .i64 x, .int .i64 y, .int .i64 z]) ?_ 0 _ rfl; exact BKP9.out⟩
           have BKX : Aside0 (we.heap[gbX]? = some (.cells #[.int .i64 sp, .int .i64 ac, .int .i64 je] 31 (0, 0))) := ⟨by rw [← hq9]; refine blk_far ?_ NBX_P.out _; refine blk_far ?_ NBX_P.out _; refine blk_far ?_ NBX_P.out _; exact BKX9.out⟩
           have BKR : Aside0 (we.heap[gbR]? = some (.cells #[.int .i64 0, .int .i64 0, .int .i64 0] 31 (0, 0))) := ⟨by rw [← hq9]; refine blk_far ?_ NBR_P.out _; refine blk_far ?_ NBR_P.out _; refine blk_far ?_ NBR_P.out _; exact BKR9.out⟩
           have HB : Aside0 (Below w.heap.size w we) := ⟨by rw [← hq9]; exact ((HB9.out.setCell GEP.out _).setCell GEP.out _).setCell GEP.out _⟩
           have HO : Aside0 (Kd.R k55 55 we w.heap.size (fun k => (k ≠ gbP ∧ k ≠ gbX) ∧ k ≠ gbR) v9 (ol ++ [(⟨⟨x, y, z⟩, ⟨(wrap64 (x + (wrap64 (Int.tmod (rd_T52 ws i).f0 600)))), (wrap64 (y + (wrap64 (Int.tmod (rd_T52 ws i).f1 600)))), (wrap64 (z + (wrap64 (Int.tmod (rd_T52 ws i).f2 600))))⟩, (wrap64 (1000 * m0)), (wrap64 (1 + (wrap64 (Int.tdiv i 2)))), i⟩ : S55)])) := ⟨by rw [← hq9]; exact (Kd.R_far (Kd.R_far (Kd.R_far HO9.out (p := ⟨gbP, 0, none⟩) (fun _ hk => hk.1.1) _) (p := ⟨gbP, 1, none⟩) (fun _ hk => hk.1.1) _) (p := ⟨gbP, 2, none⟩) (fun _ hk => hk.1.1) _)⟩
           clear hq9 HO9 HB9 BKP9 BKX9 BKR9 BKm9 hm3 hm4 hm5 hP0 hP1 hP2 hPf0 hPf1 hPf2
           go_roundg k1
           case measure => have := HK.out; omega
           case rel => exact ⟨(wrap64 (i + 1)), _, _, _, _, (by first | rfl | (simp; done) | (simp [*]; done)), HM, ⟨by have := HK.out; omega⟩, HO, BKP, BKX, BKR, HB⟩
       · rw [if_neg c1] at h
         subst h
         have c1b : decide (i < (ws.length : Int)) = false := decide_eq_false c1
         clear c1
         have hdX0 : wr.cell? ⟨gbX, 0, none⟩ = some (.int .i64 sp) := (blk_cell BKX.out 0).trans rfl
         have hdX1 : wr.cell? ⟨gbX, 1, none⟩ = some (.int .i64 ac) := (blk_cell BKX.out 1).trans rfl
         have hdX2 : wr.cell? ⟨gbX, 2, none⟩ = some (.int .i64 je) := (blk_cell BKX.out 2).trans rfl
         go_upto_region 16 with (fail)
         refine start_ (n := 5) (S := fun w' => Below wr.heap.size wr w' ∧ w'.cell? ⟨gbX, 0, none⟩ = some (.int .i64 sp) ∧ w'.cell? ⟨gbX, 1, none⟩ = some (.int .i64 ac) ∧ w'.cell? ⟨gbX, 2, none⟩ = some (.int .i64 je)) (ds := [3]) #[false, false, false, false, false] (by kernel_rfl) rfl rfl ⟨below_drew (Below.refl _ _), pw_cell_below (below_drew (Below.refl _ _)) hdX0, pw_cell_below (below_drew (Below.refl _ _)) hdX1, pw_cell_below (below_drew (Below.refl _ _)) hdX2⟩ (fun hHeld => ?_)
         generalize World.drew _ = wd at hHeld ⊢
         refine pu 0 110 (bzz 5 1) (by kernel_rfl) ?_
         refine pu 2 2 (bzz 5 5) (by kernel_rfl) ?_
         refine ta 1 111 (bzz 5 7) (by kernel_rfl) hHeld ?_
         refine last_ (i := 3) (N := none) (bzz 5 15) rfl rfl (by kernel_rfl) (by decide) (fun K hK => ?_)
         have BKR3 := Aside0.mk (blk_below BKR.out hHeld.1)
         have hR0 : wd.cell? ⟨gbR, 0, none⟩ = some (.int .i64 0) := (blk_cell BKR3.out 0).trans rfl
         have hR1 : wd.cell? ⟨gbR, 1, none⟩ = some (.int .i64 0) := (blk_cell BKR3.out 1).trans rfl
         have hR2 : wd.cell? ⟨gbR, 2, none⟩ = some (.int .i64 0) := (blk_cell BKR3.out 2).trans rfl
         have hRf0 := blk_frozen BKR3.out 0
         have hRf1 := blk_frozen BKR3.out 1
         have hRf2 := blk_frozen BKR3.out 2
         refine skip_ (w1 := ?_) (by rfl) rfl ?_ ?_
         rotate_left
         · go_simp
           rfl
         refine hK.out _ _ ?_
         clear hK K
         refine pu 4 4 (bzz 5 31) (by kernel_rfl) ?_
         refine done_ (by kernel_rfl) ?_
         have HBd := Aside0.mk (below_step HB.out hHeld.1)
         have BKR3 := Aside0.mk (blk_below BKR.out hHeld.1)
         have HOd := Aside0.mk (Kd.R_below HO.out hHeld.1)
         go_wp2
         refine bodyPost_ret (results_tct rfl _ _ gbR 31 #[.int .i64 sp, .int .i64 ac, .int .i64 je] (0, 0) _ rfl (by refine blk_put (cs := #[.int .i64 sp, .int .i64 ac, .int .i64 0]) ?_ 2 _ rfl; refine blk_put (cs := #[.int .i64 sp, .int .i64 0, .int .i64 0]) ?_ 1 _ rfl; refine blk_put (cs := #[.int .i64 0, .int .i64 0, .int .i64 0]) ?_ 0 _ rfl; exact BKR3.out) hu31 rfl (by kernel_rfl)) rfl ?_
         exact ⟨_, rfl, Kd.R_mono (Kd.R_far (Kd.R_far (Kd.R_far HOd.out (p := ⟨gbR, 0, none⟩) (fun _ hk => hk.2) _) (p := ⟨gbR, 1, none⟩) (fun _ hk => hk.2) _) (p := ⟨gbR, 2, none⟩) (fun _ hk => hk.2) _) (fun _ _ => trivial), ((HBd.out.setCell GER.out _).setCell GER.out _).setCell GER.out _⟩
end Go.Proofs.Ytmaegpblaihepaa.F
