/- TopHolds, by a contract. -/
import Derived.Test.YtmaegpblaihepaaWc
import Derived.Test.YtmaegpblaihepaaT8
import Derived.Test.YtmaegpblaihepaaT11
import Derived.Test.YtmaegpblaihepaaT12
import Derived.Test.YtmaegpblaihepaaT13
import Derived.Test.YtmaegpblaihepaaT14
import Derived.Test.YtmaegpblaihepaaFx47
import Derived.Test.YtmaegpblaihepaaFx49
import Derived.Test.YtmaegpblaihepaaFx50
namespace Go.Proofs.Ytmaegpblaihepaa.F
open Go.RowKit Go.Proofs.YtmaegpblaihepaaW.PrintWords Go.Proofs.YtmaegpblaihepaaW.PrintLast Go.Proofs.YtmaegpblaihepaaW.PrintMore
attribute [local go_sem] max2_int min2_int max_two min_two max_three min_three max_four min_four
set_option linter.unusedVariables false
set_option linter.unusedSimpArgs false
attribute [local go_sem high] eqA42
def TickP (s s' : CS) : Prop := (StopsP s ∧ s' = s) ∨ ∃ s1, BeginP s s1 ∧ AdvP s1 s'
def TicksP : Nat → Int → Int → CS → CS → Prop
 | 0, _, _, _, _ => False
 | k + 1, h, i, s, s' => if i < h then (∃ s1, TickP s s1 ∧ TicksP k h (IntKind.u8.wrap (i + 1)) s1 s') else s' = s
def HoldsP : Nat → List Int → Int → CS → CS → Prop
 | 0, _, _, _, _ => False
 | k + 1, hs, i, s, s' => if i < (hs.length : Int) then (0 ≤ i ∧ ∃ s1 s2 s3 n' x y z, TicksP k (rd hs i) 0 s s1 ∧ s1.brk = false ∧ HoldP s1 s2 ∧ RunP 20000 k s2 s3 0 n' ∧ s3.held = true ∧ s3.at_ = (s3.pl.length : Int) ∧ StopsP s3 ∧ PosP s3 x y z ∧ HoldsP k hs (wrap64 (i + 1)) { s3 with held := false } s') else s' = s
def EndP (k : Nat) (sp ac je : Int) (ms : List S55) (hs : List Int) : Prop := ms.length ≤ 1000000 ∧ ∃ j s' sF mp b out lr x y z, controller_check.f k ms sp ac je = some 0 ∧ SkipTo k ms 0 j ∧ HoldsP k hs 0 ({ ms := ms, sp := sp, ac := ac, je := je, ix := j, pt := 0, pl := [], at_ := 0, bra := false, held := false, brk := false, pcs := [], lx := (rd_T55 ms 0).f0.f0, ly := (rd_T55 ms 0).f0.f1, lz := (rd_T55 ms 0).f0.f2 } : CS) s' ∧ FinP k s' sF (ms.length : Int) 0 ∧ PieceP sF mp b ∧ sF.at_ = (sF.pl.length : Int) ∧ sF.pcs.length ≤ 1000000 ∧ WholeP k sF.pcs 0 [] out ∧ swarftop_long.f k ms = some lr ∧ swarfref47_Same.f k out lr = some true ∧ PosP sF x y z ∧ swarfref47_End.f x y z ms = some (x, y, z)
def TopP (k : Nat) (x0 y0 z0 : Int) (ws : List S52) (sp ac je : Int) (hs : List Int) : Prop := AwakeP k ∧ ∃ ok ms, MotR k x0 y0 z0 ws sp ac je ok ms ∧ (ok = false ∨ (ok = true ∧ 6 < hs.length) ∨ (ok = true ∧ ¬ 6 < hs.length ∧ EndP k sp ac je ms hs))
theorem at_u8 {w : World} {A : Option Addr} {n : Nat} {xs : List Int} (h : Kd.C (Kd.int .u8) w A n xs) (i : Int) (h0 : 0 ≤ i) (h1 : i < n) : ∃ ad, A = some ad ∧ w.cell? (ad.add i.toNat) = some (.int .u8 (rd xs i)) := ReadsOf.at_ (d := (0 : Int)) (Kd.reads_of_C h) i h0 h1
set_option maxRecDepth 100000 in
set_option maxHeartbeats 8000000 in
theorem swarftop_TopHolds.calls (k : Nat) (x0 y0 z0 : Int) (A : Option Addr) (c : Nat) (ws : List S52) (sp ac je : Int) (A2 : Option Addr) (c2 : Nat) (hs : List Int) (w : World) (hr : Kd.C k52 w A ws.length ws) (hc : ws.length ≤ c) (hr2 : Kd.C (Kd.int .u8) w A2 hs.length hs) (hc2 : hs.length ≤ c2) (h : TopP k x0 y0 z0 ws sp ac je hs) : Calls Try.prog 3 #[.agg #[.int .i16 x0, .int .i16 y0, .int .i16 z0, .slice A ws.length c, .int .i64 sp, .int .i64 ac, .int .i64 je], .slice A2 hs.length c2] w fun e w' => e = .returned (.bool true) ∧ Below w.heap.size w w' := by
 have hu22 := Try.underlying22
 have hu23 := Try.underlying23
 have hu24 := Try.underlying24
 have hu26 := Try.underlying26
 have hu28 := Try.underlying28
 have hu31 := Try.underlying31
 have hu42 := Try.underlying42
 have hu55 := Try.underlying55
 have hu30 := Try.underlying30
 have hu29 := Try.underlying29
 obtain ⟨haw, ok, ms, hmot, h⟩ := h
 have HR := Aside0.mk hr
 have HC := Aside0.mk hc
 have HR2 := Aside0.mk hr2
 have HC2 := Aside0.mk hc2
 have AW := Aside0.mk haw
 have MOT := Aside0.mk hmot
 have HH := Aside0.mk h
 clear hr hc hr2 hc2 haw hmot h
 have HB := Aside0.mk (Below.refl w.heap.size w)
 go_enter Try.func3, Try.ntmps3
 go_upto_region 2 with (first | ((with_reducible refine gate_dst (N := 2) rfl ?_); refine box_event ?hg (N := 2) ?hd (cs := #[.int .i16 x0, .int .i16 y0, .int .i16 z0, .slice A ws.length c, .int .i64 sp, .int .i64 ac, .int .i64 je]) (t := 28) ?hr ?_; (case hd => rfl); (case hg => rfl); (case hr => first | (go_simp; done) | (go_simp; rfl)); intro gbT hg wz1 hbox hb; have n0_ := Aside0.mk (below_step (HB.out) hb); have n1_ := Aside0.mk (hbox); have n2_ := Aside0.mk ((by rw [hg]; exact (below_size (HB.out))) : w.heap.size ≤ gbT); clear HB; have HB := n0_; have BKT := n1_; have GET := n2_; clear n0_ n1_ n2_; clear hb hbox hg; obtain ⟨hb2T0, hb2T1, hb2T2, hb2T3, hb2T4, hb2T5, hb2T6⟩ := cells7 BKT.out) | (go_at_call 4; (with_reducible refine (swarftop_motions.calls k x0 y0 z0 A c ws sp ac je ok ms (Kd.C_below HR.out HB.out) HC.out MOT.out).mono ?_); rintro e_ wm ⟨v_, rfl, hR, hb⟩; have HO := Aside0.mk (Kd.R_lower hR (below_size HB.out)); obtain ⟨Am, cm, em⟩ := Kd.R_slice HO.out; subst em; clear hR; clear hb2T0 hb2T1 hb2T2 hb2T3 hb2T4 hb2T5 hb2T6; have n0_ := Aside0.mk (blk_below BKT.out hb); have n1_ := Aside0.mk (below_step (HB.out) hb); clear BKT HB; have BKT := n0_; have HB := n1_; clear n0_ n1_ hb) | ((with_reducible refine gate_dst (N := 6) rfl ?_); refine box_event ?hg (N := 6) ?hd (cs := #[.int .i64 0, .int .i64 0, .int .i64 0]) (t := 31) ?hr ?_; (case hd => rfl); (case hg => rfl); (case hr => first | (go_simp; done) | (go_simp; rfl)); intro gbX hg wz2 hbox hb; have n0_ := Aside0.mk (blk_below (g := gbT) (o := .cells #[.int .i16 x0, .int .i16 y0, .int .i16 z0, .slice A ws.length c, .int .i64 sp, .int .i64 ac, .int .i64 je] 28 (0, 0)) (BKT.out) hb); have n1_ := Aside0.mk (Kd.R_below (Kd.R_elderB (HO.out) gbX (by rw [hg]; exact Nat.le_refl _)) hb); have n2_ := Aside0.mk (below_step (HB.out) hb); have n3_ := Aside0.mk (hbox); have n4_ := Aside0.mk ((by rw [hg]; exact (below_size (HB.out))) : w.heap.size ≤ gbX); have n5_ := Aside0.mk ((by rw [hg]; exact Nat.ne_of_lt (blk_lt (g := gbT) (o := .cells #[.int .i16 x0, .int .i16 y0, .int .i16 z0, .slice A ws.length c, .int .i64 sp, .int .i64 ac, .int .i64 je] 28 (0, 0)) (BKT.out))) : gbT ≠ gbX); have n6_ := Aside0.mk ((by rw [hg]; exact Nat.ne_of_gt (blk_lt (g := gbT) (o := .cells #[.int .i16 x0, .int .i16 y0, .int .i16 z0, .slice A ws.length c, .int .i64 sp, .int .i64 ac, .int .i64 je] 28 (0, 0)) (BKT.out))) : gbX ≠ gbT); clear BKT HO HB; have BKT := n0_; have HO := n1_; have HB := n2_; have BKX := n3_; have GEX := n4_; have NBT_X := n5_; have NBX_T := n6_; clear n0_ n1_ n2_ n3_ n4_ n5_ n6_; clear hb hbox hg; obtain ⟨hb6X0, hb6X1, hb6X2⟩ := cells3 BKX.out; have hfzb6_X_0 := blk_frozen BKX.out 0; have hfzb6_X_1 := blk_frozen BKX.out 1; have hfzb6_X_2 := blk_frozen BKX.out 2))
 generalize hq9 : World.setCell _ _ _ = wb
 have n1_ : Aside0 (wb.heap[gbX]? = some (.cells #[.int .i64 sp, .int .i64 ac, .int .i64 je] 31 (0, 0))) := ⟨by rw [← hq9]; refine blk_put (cs := #[.int .i64 sp, .int .i64 ac, .int .i64 0]) ?_ 2 _ rfl; refine blk_put (cs := #[.int .i64 sp, .int .i64 0, .int .i64 0]) ?_ 1 _ rfl; refine blk_put (cs := #[.int .i64 0, .int .i64 0, .int .i64 0]) ?_ 0 _ rfl; exact BKX.out⟩
 have n2_ : Aside0 (Below w.heap.size w wb) := ⟨by rw [← hq9]; exact ((HB.out.setCell GEX.out _).setCell GEX.out _).setCell GEX.out _⟩
 have n3_ : Aside0 (Kd.R k55 55 wb w.heap.size (fun _ => True) (.slice Am ms.length cm) ms) := ⟨by rw [← hq9]; exact Kd.R_mono (Kd.R_far (Kd.R_far (Kd.R_far HO.out (p := ⟨gbX, 0, none⟩) (fun _ hk => hk.2) _) (p := ⟨gbX, 1, none⟩) (fun _ hk => hk.2) _) (p := ⟨gbX, 2, none⟩) (fun _ hk => hk.2) _) (fun _ _ => trivial)⟩
 clear hq9 BKX BKT HB HO hb6X0 hfzb6_X_0 hb6X1 hfzb6_X_1 hb6X2 hfzb6_X_2
 have BKX := n1_
 have HB := n2_
 have HO := n3_
 clear n1_ n2_ n3_
 have h := HH.out
 clear HH
 rcases h with rfl | ⟨rfl, c1⟩ | ⟨rfl, c1, h⟩
 · skip
   go_wp2_with (first | (go_at_call 5; (with_reducible refine (swarftop_awake51.calls k AW.out).mono ?_); rintro e_ wa ⟨rfl, hb⟩; have n0_ := Aside0.mk (blk_below BKX.out hb); have n1_ := Aside0.mk (Kd.R_below (HO.out) hb); have n2_ := Aside0.mk (below_step (HB.out) hb); clear BKX HO HB; have BKX := n0_; have HO := n1_; have HB := n2_; clear n0_ n1_ n2_ hb))
   go_ret
   exact ⟨rfl, HB.out⟩
 · have cb : decide (6 < hs.length) = true := decide_eq_true c1
   have cb2 : decide ((6 : Int) < (hs.length : Int)) = true := decide_eq_true (by omega)
   clear c1
   go_wp2_with (first | (go_at_call 5; (with_reducible refine (swarftop_awake51.calls k AW.out).mono ?_); rintro e_ wa ⟨rfl, hb⟩; have n0_ := Aside0.mk (blk_below BKX.out hb); have n1_ := Aside0.mk (Kd.R_below (HO.out) hb); have n2_ := Aside0.mk (below_step (HB.out) hb); clear BKX HO HB; have BKX := n0_; have HO := n1_; have HB := n2_; clear n0_ n1_ n2_ hb))
   go_ret
   exact ⟨rfl, HB.out⟩
 · have cb : decide (6 < hs.length) = false := decide_eq_false c1
   have cb2 : decide ((6 : Int) < (hs.length : Int)) = false := decide_eq_false (by omega)
   clear c1
   obtain ⟨hl, j, s', sF, mp, b, out, lr, x, y, z, hck, hsk, hhl, hfi, hpc, hrs, hpl, hwh, hlo, hsa, hpo, hen⟩ := h
   have HLE := Aside0.mk hl
   have CK := Aside0.mk hck
   have SK := Aside0.mk hsk
   have HL := Aside0.mk hhl
   have FI := Aside0.mk hfi
   have PC := Aside0.mk hpc
   have RS := Aside0.mk hrs
   have PL := Aside0.mk hpl
   have WH := Aside0.mk hwh
   have LO := Aside0.mk hlo
   have SA := Aside0.mk hsa
   have PO := Aside0.mk hpo
   have EN := Aside0.mk hen
   clear hl hck hsk hhl hfi hpc hrs hpl hwh hlo hsa hpo hen
   go_upto_block 0 with (first | (go_at_call 5; (with_reducible refine (swarftop_awake51.calls k AW.out).mono ?_); rintro e_ wa ⟨rfl, hb⟩; have n0_ := Aside0.mk (blk_below BKX.out hb); have n1_ := Aside0.mk (Kd.R_below (HO.out) hb); have n2_ := Aside0.mk (below_step (HB.out) hb); clear BKX HO HB; have BKX := n0_; have HO := n1_; have HB := n2_; clear n0_ n1_ n2_ hb; obtain ⟨heX0, heX1, heX2⟩ := cells3 BKX.out) | (go_at_call 6; (with_reducible refine (controller_New.calls k k j Am cm ms sp ac je (Kd.R_reads' HO.out).2.2 (Kd.R_reads' HO.out).2.1 HLE.out CK.out SK.out).mono ?_); rintro e_ w1 ⟨g, rfl, hs_, hb⟩; have HS := Aside0.mk hs_; have HBN := Aside0.mk hb; clear hs_ hb heX0 heX1 heX2 BKX))
   go_wp2_with (fail)
   go_loopg [45] k (fun kq v45 w' => ∃ (i : Int) (s : CS), v45 = .int .i64 i ∧ Aside0 (HoldsP kq hs i s s') ∧ Aside0 (kq ≤ k) ∧ Aside0 (Ctl wa.heap.size w' g s) ∧ Aside0 (Below wa.heap.size wa w'))
   case atStart => exact ⟨0, _, rfl, HL, ⟨Nat.le_refl _⟩, HS, HBN⟩
   case round =>
    clear HL HS HBN
    obtain ⟨i, s, rfl, HL, HK, HS, HBN⟩ := hrel
    cases gk with
    | zero => exact absurd HL.out (by simp [HoldsP])
    | succ k1 =>
     have h := HL.out
     clear HL
     simp only [HoldsP] at h
     by_cases c1 : i < (hs.length : Int)
     · rw [if_pos c1] at h
       have c1b : decide (i < (hs.length : Int)) = true := decide_eq_true c1
       obtain ⟨i0, s1, s2, s3, n', x, y, z, htk, hbr, hho, hru, hhe, hre, hst, hpp, hnx⟩ := h
       obtain ⟨ad, ea_, hx0⟩ := at_u8 (Kd.C_below HR2.out (below_weaken HB.out (below_size HB.out) HBN.out)) i i0 c1
       subst ea_
       replace i0 := eq_true i0
       replace c1 := eq_true c1
       have TK := Aside0.mk htk
       have BR := Aside0.mk hbr
       have HOL := Aside0.mk hho
       have RU := Aside0.mk hru
       have HE := Aside0.mk hhe
       have RE := Aside0.mk hre
       have ST := Aside0.mk hst
       have PP := Aside0.mk hpp
       have NX := Aside0.mk hnx
       clear htk hbr hho hru hhe hre hst hpp hnx
       go_upto_block 2 with (fail)
       go_wp2_with (fail)
       go_loopg [50] k1 (fun kq v50 w' => ∃ (m : Int) (t : CS), v50 = .int .u8 m ∧ Aside0 (TicksP kq (rd hs i) m t s1) ∧ Aside0 (kq ≤ k1) ∧ Aside0 (Ctl wa.heap.size w' g t) ∧ Aside0 (Below wa.heap.size wa w'))
       case atStart => exact ⟨0, s, rfl, TK, ⟨Nat.le_refl _⟩, HS, HBN⟩
       case round =>
        clear TK HS HBN hx0
        obtain ⟨m, t, rfl, TK, HK1, HS, HBN⟩ := hrel
        cases gk with
        | zero => exact absurd TK.out (by simp [TicksP])
        | succ k2 =>
         have h := TK.out
         clear TK
         simp only [TicksP] at h
         by_cases c2 : m < rd hs i
         · rw [if_pos c2] at h
           have c2b : decide (m < rd hs i) = true := decide_eq_true c2
           clear c2
           obtain ⟨t1, htick, htk⟩ := h
           have TK := Aside0.mk htk
           clear htk
           rcases htick with ⟨hst, rfl⟩ | ⟨t0, hbe, had⟩
           · have HST := Aside0.mk hst
             unfold StopsP at HST
             clear hst
             go_wp2_with (first | (go_at_call 7; (with_reducible refine (controller_Tick.no HS.out HST.out.1 HST.out.2).mono ?_); rintro e_ w3 ⟨rfl, hb3⟩; have HS3 := Aside0.mk (HS.out.below hb3); have HB3 := Aside0.mk (below_then HBN.out HS.out.le hb3); clear hb3))
             go_roundg k2
             case measure => have := HK1.out; omega
             case rel => exact ⟨_, t1, (by first | rfl | (simp; done) | (simp [*]; done)), TK, ⟨by have := HK1.out; omega⟩, HS3, HB3⟩
           · have HBE := Aside0.mk hbe
             have HAD := Aside0.mk had
             clear hbe had
             go_wp2_with (first | (go_at_call 7; (with_reducible refine (controller_Tick.go t1 t0 HS.out HBE.out HAD.out).mono ?_); rintro e_ w3 ⟨rfl, hs3, hb3⟩; have HS3 := Aside0.mk hs3; have HB3 := Aside0.mk (HBN.out.trans hb3); clear hs3 hb3))
             go_roundg k2
             case measure => have := HK1.out; omega
             case rel => exact ⟨_, t1, (by first | rfl | (simp; done) | (simp [*]; done)), TK, ⟨by have := HK1.out; omega⟩, HS3, HB3⟩
         · rw [if_neg c2] at h
           subst h
           have c2b : decide (m < rd hs i) = false := decide_eq_false c2
           clear c2
           go_upto_block 4 with (first | (go_at_call 8; (with_reducible refine (controller_Hold.calls s2 HS.out BR.out HOL.out).mono ?_); rintro e_ w4 ⟨rfl, hs4, hb4⟩; have HS4 := Aside0.mk hs4; have HB4 := Aside0.mk (HBN.out.trans hb4); clear hs4 hb4 HS HBN))
           go_wp2_with (fail)
           go_loopg [12] k1 (fun kq v12 w' => ∃ (n : Int) (t : CS), v12 = .int .i64 n ∧ Aside0 (RunP 20000 kq t s3 n n') ∧ Aside0 (kq ≤ k1) ∧ Aside0 (Ctl wa.heap.size w' g t) ∧ Aside0 (Below wa.heap.size wa w'))
           case atStart => exact ⟨0, s2, rfl, RU, ⟨Nat.le_refl _⟩, HS4, HB4⟩
           case round =>
            clear RU HS4 HB4 HK1
            obtain ⟨n, t, rfl, RU, HK1, HS, HBN⟩ := hrel
            cases gk with
            | zero => exact absurd RU.out (by simp [RunP])
            | succ k3 =>
             have h := RU.out
             clear RU
             simp only [RunP] at h
             rcases h with ⟨hst, rfl, rfl⟩ | ⟨t0, t1, hbe, had, hlim, hrun⟩
             · skip
               have HST := Aside0.mk hst
               unfold StopsP at HST
               clear hst
               go_upto_region 24 with (first | (go_at_call 7; (with_reducible refine (controller_Tick.no HS.out HST.out.1 HST.out.2).mono ?_); rintro e_ w5 ⟨rfl, hb⟩; have n1_ := Aside0.mk (HS.out.below hb); have n2_ := Aside0.mk (below_then HBN.out HS.out.le hb); clear HS HBN hb; have HS := n1_; have HBN := n2_; clear n1_ n2_) | (go_at_call 9; have HHO := controller_Holding.calls true HS.out (beq_iff_eq.mpr RE.out); rw [HE.out] at HHO; (with_reducible refine (HHO).mono ?_); rintro e_ w6 ⟨rfl, hb⟩; have n1_ := Aside0.mk (HS.out.below hb); have n2_ := Aside0.mk (below_then HBN.out HS.out.le hb); clear HS HBN hb; have HS := n1_; have HBN := n2_; clear n1_ n2_; clear HHO) | (go_at_call 10; (with_reducible refine (controller_Position.calls x y z HS.out PP.out).mono ?_); rintro e_ w7 ⟨rfl, hb⟩; have n1_ := Aside0.mk (HS.out.below hb); have n2_ := Aside0.mk (below_then HBN.out HS.out.le hb); clear HS HBN hb; have HS := n1_; have HBN := n2_; clear n1_ n2_) | (go_at_call 11; (with_reducible refine (controller_Index.calls HS.out).mono ?_); rintro e_ w8 ⟨rfl, hb⟩; have n1_ := Aside0.mk (HS.out.below hb); have n2_ := Aside0.mk (below_then HBN.out HS.out.le hb); clear HS HBN hb; have HS := n1_; have HBN := n2_; clear n1_ n2_) | ((with_reducible refine gate_dst (N := 15) rfl ?_); refine box_event ?hg (N := 15) ?hd (cs := #[.int .i64 0, .int .i64 0, .int .i64 0]) (t := 42) ?hr ?_; (case hd => rfl); (case hg => rfl); (case hr => first | (go_simp; done) | (go_simp; rfl)); intro q hg wq hbox hb; have HBq := Aside0.mk hb; have HGq : Aside0 (w8.heap.size ≤ q) := ⟨(by rw [hg]; exact Nat.le_refl _)⟩; have BKq := Aside0.mk hbox; clear hg hbox hb; have hq0 : wq.cell? ⟨q, 0, none⟩ = some (.int .i64 0) := (blk_cell BKq.out 0).trans rfl; have hq1 : wq.cell? ⟨q, 1, none⟩ = some (.int .i64 0) := (blk_cell BKq.out 1).trans rfl; have hq2 : wq.cell? ⟨q, 2, none⟩ = some (.int .i64 0) := (blk_cell BKq.out 2).trans rfl; have hqf0 := blk_frozen BKq.out 0; have hqf1 := blk_frozen BKq.out 1; have hqf2 := blk_frozen BKq.out 2))
               generalize hq9 : World.setCell _ _ _ = wf
               have n1_ : Aside0 (wf.heap[q]? = some (.cells #[.int .i64 x, .int .i64 y, .int .i64 z] 42 (0, 0))) := ⟨by rw [← hq9]; refine blk_put (cs := #[.int .i64 x, .int .i64 y, .int .i64 0]) ?_ 2 _ rfl; refine blk_put (cs := #[.int .i64 x, .int .i64 0, .int .i64 0]) ?_ 1 _ rfl; refine blk_put (cs := #[.int .i64 0, .int .i64 0, .int .i64 0]) ?_ 0 _ rfl; exact BKq.out⟩
               have n2_ : Below w8.heap.size w8 wf := by rw [← hq9]; exact ((HBq.out.setCell HGq.out _).setCell HGq.out _).setCell HGq.out _
               have n3_ := Aside0.mk (HS.out.below n2_)
               have n4_ := Aside0.mk (below_then HBN.out HS.out.le n2_)
               clear hq9 HS HBN BKq HBq n2_ hq0 hqf0 hq1 hqf1 hq2 hqf2
               have BKq := n1_
               have HS := n3_
               have HBN := n4_
               clear n1_ n3_ n4_
               have hq0 : wf.cell? ⟨q, 0, none⟩ = some (.int .i64 x) := (blk_cell BKq.out 0).trans rfl
               have ex : (x == x) = true := beq_self_eq_true _
               have hq1 : wf.cell? ⟨q, 1, none⟩ = some (.int .i64 y) := (blk_cell BKq.out 1).trans rfl
               have ey : (y == y) = true := beq_self_eq_true _
               have hq2 : wf.cell? ⟨q, 2, none⟩ = some (.int .i64 z) := (blk_cell BKq.out 2).trans rfl
               have ez : (z == z) = true := beq_self_eq_true _
               have eix : (s3.ix != s3.ix) = false := bne_self_eq_false _
               refine start_ (n := 14) (S := fun w' => Below wf.heap.size wf w' ∧ w'.cell? ⟨q, 0, none⟩ = some (.int .i64 x) ∧ w'.cell? ⟨q, 1, none⟩ = some (.int .i64 y) ∧ w'.cell? ⟨q, 2, none⟩ = some (.int .i64 z)) (ds := []) #[false, false, false, false, false, false, false, false, false, false, false, false, false, false] (by kernel_rfl) rfl rfl ⟨below_drew (Below.refl _ _), pw_cell_below (below_drew (Below.refl _ _)) hq0, pw_cell_below (below_drew (Below.refl _ _)) hq1, pw_cell_below (below_drew (Below.refl _ _)) hq2⟩ (fun hHeld => ?_)
               generalize World.drew _ = wd at hHeld ⊢
               refine pu 0 78 (bzz 14 1) (by kernel_rfl) ?_
               refine one_ (i := 1) (N := some 79) (bzz 14 3) rfl rfl (by kernel_rfl) (by decide) (fun K hK => ?_)
               refine goes_ Try.func7 (by kernel_rfl) rfl #[.pointer (some ⟨g, 0, none⟩)] (by rfl) rfl rfl (by simp only [List.map_toArray, List.map_cons, List.map_nil]; rfl) ?_
               with_reducible refine (controller_Tick.no (HS.out.below hHeld.1) HST.out.1 HST.out.2).mono ?_
               rintro e3 w3 ⟨rfl, hb⟩
               refine ⟨_, rfl, ?_⟩
               refine hK.out _ _ ⟨below_step hHeld.1 hb, pw_cell_below (below_step hHeld.1 hb) hq0, pw_cell_below (below_step hHeld.1 hb) hq1, pw_cell_below (below_step hHeld.1 hb) hq2⟩ (fun hHeld => ?_)
               clear hK K
               refine norm_ (a' := ?_) ?_ ?_
               rotate_left
               · show Act.put _ (some 79) _ = _
                 simp only [Act.put, List.setIfInBounds_toArray, List.set_cons_zero, List.set_cons_succ, i64_w, i32_w]
                 rfl
               refine pu 2 80 (bzz 14 7) (by kernel_rfl) ?_
               refine pu 3 81 (bzz 14 15) (by kernel_rfl) ?_
               refine ta 5 83 (bzz 14 47) (by kernel_rfl) hHeld ?_
               refine one_ (i := 4) (N := some 82) (bzz 14 63) rfl rfl (by kernel_rfl) (by decide) (fun K hK => ?_)
               refine goes_ Try.func10 (by kernel_rfl) rfl #[.pointer (some ⟨g, 0, none⟩)] (by rfl) rfl rfl (by simp only [List.map_toArray, List.map_cons, List.map_nil]; rfl) ?_
               with_reducible refine (controller_Position.calls x y z (HS.out.below hHeld.1) PP.out).mono ?_
               rintro e4 w3 ⟨rfl, hb⟩
               refine ⟨_, rfl, ?_⟩
               refine hK.out _ _ ⟨below_step hHeld.1 hb, pw_cell_below (below_step hHeld.1 hb) hq0, pw_cell_below (below_step hHeld.1 hb) hq1, pw_cell_below (below_step hHeld.1 hb) hq2⟩ (fun hHeld => ?_)
               clear hK K
               refine norm_ (a' := ?_) ?_ ?_
               rotate_left
               · show Act.put _ (some 82) _ = _
                 simp only [Act.put, List.setIfInBounds_toArray, List.set_cons_zero, List.set_cons_succ, i64_w, i32_w]
                 rfl
               refine pu 6 84 (bzz 14 127) (by kernel_rfl) ?_
               refine pu 7 85 (bzz 14 255) (by kernel_rfl) ?_
               refine pu 8 86 (bzz 14 511) (by kernel_rfl) ?_
               refine pu 9 87 (bzz 14 1023) (by kernel_rfl) ?_
               refine pu 11 89 (bzz 14 3071) (by kernel_rfl) ?_
               refine one_ (i := 10) (N := some 88) (bzz 14 4095) rfl rfl (by kernel_rfl) (by decide) (fun K hK => ?_)
               refine goes_ Try.func11 (by kernel_rfl) rfl #[.pointer (some ⟨g, 0, none⟩)] (by rfl) rfl rfl (by simp only [List.map_toArray, List.map_cons, List.map_nil]; rfl) ?_
               with_reducible refine (controller_Index.calls (HS.out.below hHeld.1)).mono ?_
               rintro e5 w3 ⟨rfl, hb⟩
               refine ⟨_, rfl, ?_⟩
               refine hK.out _ _ ⟨below_step hHeld.1 hb, pw_cell_below (below_step hHeld.1 hb) hq0, pw_cell_below (below_step hHeld.1 hb) hq1, pw_cell_below (below_step hHeld.1 hb) hq2⟩ (fun hHeld => ?_)
               clear hK K
               refine norm_ (a' := ?_) ?_ ?_
               rotate_left
               · show Act.put _ (some 88) _ = _
                 simp only [Act.put, List.setIfInBounds_toArray, List.set_cons_zero, List.set_cons_succ, i64_w, i32_w]
                 rfl
               refine pu 12 90 (bzz 14 8191) (by kernel_rfl) ?_
               refine pu 13 91 (bzz 14 16383) (by kernel_rfl) ?_
               refine done_ (by kernel_rfl) ?_
               have n3_ := Aside0.mk (HS.out.below hHeld.1)
               have n4_ := Aside0.mk (below_then HBN.out HS.out.le hHeld.1)
               clear hHeld HS HBN BKq hq0 hq1 hq2 ex ey ez eix
               have HS := n3_
               have HBN := n4_
               clear n3_ n4_
               go_wp2_with (first | (go_at_call 12; (with_reducible refine (controller_Resume.calls HS.out).mono ?_); rintro e_ w9 ⟨rfl, hs_, hb⟩; have n1_ := Aside0.mk hs_; have n2_ := Aside0.mk (HBN.out.trans hb); clear HS HBN hs_ hb; have HS := n1_; have HBN := n2_; clear n1_ n2_))
               go_roundg k1
               case measure => have := HK.out; omega
               case rel => exact ⟨(wrap64 (i + 1)), _, (by first | rfl | (simp; done) | (simp [*]; done)), NX, ⟨by have := HK.out; omega⟩, HS, HBN⟩
             · have HBE := Aside0.mk hbe
               have HAD := Aside0.mk had
               have RU := Aside0.mk hrun
               have hl : decide (20000 < wrap64 (n + 1)) = false := decide_eq_false (by omega)
               clear hbe had hrun hlim
               go_wp2_with (first | (go_at_call 7; (with_reducible refine (controller_Tick.go t1 t0 HS.out HBE.out HAD.out).mono ?_); rintro e_ w3 ⟨rfl, hs3, hb3⟩; have HS3 := Aside0.mk hs3; have HB3 := Aside0.mk (HBN.out.trans hb3); clear hs3 hb3))
               go_roundg k3
               case measure => have := HK1.out; omega
               case rel => exact ⟨_, t1, (by first | rfl | (simp; done) | (simp [*]; done)), RU, ⟨by have := HK1.out; omega⟩, HS3, HB3⟩
     · rw [if_neg c1] at h
       subst h
       have c1b : decide (i < (hs.length : Int)) = false := decide_eq_false c1
       clear c1
       have ex : (x == x) = true := beq_self_eq_true _
       have ey : (y == y) = true := beq_self_eq_true _
       have ez : (z == z) = true := beq_self_eq_true _
       go_wp2_with (first | (go_at_call 13; (with_reducible refine (swarftop_finish.calls k (ms.length : Int) sF HS.out FI.out).mono ?_); rintro e_ x1 ⟨rfl, hs_, hb⟩; have n1_ := Aside0.mk hs_; have n2_ := Aside0.mk (HBN.out.trans hb); clear HS HBN hs_ hb; have HS := n1_; have HBN := n2_; clear n1_ n2_) | (go_at_call 16; (with_reducible refine (controller_Done.calls mp b HS.out PC.out RS.out PL.out).mono ?_); rintro e_ x2 ⟨v1, rfl, hR, hb⟩; have n1_ := Aside0.mk (HS.out.below hb); have n2_ := Aside0.mk (below_then HBN.out HS.out.le hb); clear HS HBN; have HS := n1_; have HBN := n2_; clear n1_ n2_; have HD := Aside0.mk hR; obtain ⟨AD, cD, eD⟩ := Kd.R_slice HD.out; subst eD; clear hR hb) | (go_at_call 15; (with_reducible refine (swarftop_whole.calls k AD cD sF.pcs out (Kd.R_reads' HD.out).2.2 (Kd.R_reads' HD.out).2.1 WH.out).mono ?_); rintro e_ x3 ⟨v2, rfl, hR, hb⟩; have n1_ := Aside0.mk (HS.out.below hb); have n2_ := Aside0.mk (below_then HBN.out HS.out.le hb); clear HS HBN; have HS := n1_; have HBN := n2_; clear n1_ n2_; have HWO := Aside0.mk hR; obtain ⟨AW_, cW, eW⟩ := Kd.R_slice HWO.out; subst eW; clear hR hb HD) | (go_at_call 17; (with_reducible refine (swarftop_long.calls k Am cm ms lr _ (Kd.C_below (Kd.R_reads' HO.out).2.2 HBN.out) (Kd.R_reads' HO.out).2.1 LO.out).mono ?_); rintro e_ x4 ⟨v3, rfl, hR, hb⟩; have n1_ := Aside0.mk (HS.out.below hb); have n2_ := Aside0.mk (below_then HBN.out HS.out.le hb); clear HS HBN; have HS := n1_; have HBN := n2_; clear n1_ n2_; have HLR := Aside0.mk hR; obtain ⟨AL, cL, eL⟩ := Kd.R_slice HLR.out; subst eL; have n3_ := Aside0.mk (Kd.R_below HWO.out hb); clear HWO; have HWO := n3_; clear hR hb n3_) | (go_at_call 14; (with_reducible refine (swarfref47_Same.calls k AW_ cW out AL cL lr true _ (Kd.R_reads' HWO.out).2.2 (Kd.R_reads' HWO.out).2.1 (Kd.R_reads' HLR.out).2.2 (Kd.R_reads' HLR.out).2.1 SA.out).mono ?_); rintro e_ x5 ⟨rfl, hd⟩; have hb := hd.below; have n1_ := Aside0.mk (HS.out.below hb); have n2_ := Aside0.mk (below_then HBN.out HS.out.le hb); clear HS HBN; have HS := n1_; have HBN := n2_; clear n1_ n2_; clear hb hd HWO HLR) | (go_at_call 10; (with_reducible refine (controller_Position.calls x y z HS.out PO.out).mono ?_); rintro e_ x6 ⟨rfl, hb⟩; have n1_ := Aside0.mk (HS.out.below hb); have n2_ := Aside0.mk (below_then HBN.out HS.out.le hb); clear HS HBN; have HS := n1_; have HBN := n2_; clear n1_ n2_; clear hb) | (go_at_call 18; (with_reducible refine (swarfref47_End.calls x y z Am cm ms x y z _ (Kd.C_below (Kd.R_reads' HO.out).2.2 HBN.out) (Kd.R_reads' HO.out).2.1 EN.out).mono ?_); rintro e_ x7 ⟨rfl, hb⟩; have n1_ := Aside0.mk (HS.out.below hb); have n2_ := Aside0.mk (below_then HBN.out HS.out.le hb); clear HS HBN; have HS := n1_; have HBN := n2_; clear n1_ n2_; clear hb))
       go_ret
       exact ⟨rfl, below_weaken HB.out (below_size HB.out) HBN.out⟩
end Go.Proofs.Ytmaegpblaihepaa.F
