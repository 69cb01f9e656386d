/- Own texts of a proof about layer 55's simulate (merged): PF39, Hp, Hq. -/
import Derived.Test.YtdadnapfecmmdaaYm2
import Derived.Test.YtdadnapfecmmdaaYm5
import Derived.Test.YtdadnapfecmmdaaYm6
import Derived.OpenShut
namespace Go.Proofs.Ytdadnapfecmmdaa.P
open Go.RowKit Go.Proofs.YtdadnapfecmmdaaW.PrintWords Go.Proofs.YtdadnapfecmmdaaW.PrintLast Go.Proofs.YtdadnapfecmmdaaW.PrintMore
attribute [local go_sem] max2_int min2_int max_two min_two max_three min_three max_four min_four   -- for this text's walks alone
set_option linter.unusedVariables false
set_option linter.unusedSimpArgs false
def deployment_Active.l0 : Nat → List (S100) → ByteArray → Int → List (S100) → Int → Int → Option (Int × Int × Int × ByteArray × ByteArray × ByteArray × Bool)
  | 0, _, _, _, _, _, _ => none
  | k + 1, x0, x1, x2, x10, x11, x12 => if x12 < x11 then (if 0 ≤ x12 then (if x12 < (x10.length : Int) then (if ((rd_T100 x10 x12).f1) = 1 then (if ((rd_T100 x10 x12).f3).toList = x1.toList then ((deployment_effect.f k x0 x12).bind fun bt161 => ((deployment_has.f bt161.1 bt161.2 x2).bind fun t163 => (if t163 = true then (some ((rd_T100 x10 x12).f0, (rd_T100 x10 x12).f1, (rd_T100 x10 x12).f2, (rd_T100 x10 x12).f3, (rd_T100 x10 x12).f4, (rd_T100 x10 x12).f5, true)) else (deployment_Active.l0 k x0 x1 x2 x10 x11 (wrap64 (x12 + 1)))))) else (deployment_Active.l0 k x0 x1 x2 x10 x11 (wrap64 (x12 + 1)))) else (deployment_Active.l0 k x0 x1 x2 x10 x11 (wrap64 (x12 + 1)))) else (none)) else (none)) else (some (0, 0, 0, (⟨#[]⟩ : ByteArray), (⟨#[]⟩ : ByteArray), (⟨#[]⟩ : ByteArray), false))
def deployment_Active.f (k : Nat) (l0 : List (S100)) (a1 : ByteArray) (a2 : Int) : Option (Int × Int × Int × ByteArray × ByteArray × ByteArray × Bool) := deployment_Active.l0 k l0 a1 a2 l0 (l0.length : Int) 0
theorem deployment_Active.mono_l : ∀ k, (∀ y0 y1 y2 y3 y4 y5, LeO (deployment_Active.l0 k y0 y1 y2 y3 y4 y5) (deployment_Active.l0 (k + 1) y0 y1 y2 y3 y4 y5))
  | 0 => fun _ _ _ _ _ _ r h => by simp [deployment_Active.l0] at h
  | k + 1 => by
    have ih0 := deployment_Active.mono_l k
    · intro y0 y1 y2 y3 y4 y5
      unfold deployment_Active.l0
      repeat' first
      | (with_reducible exact ih0 _ _ _ _ _ _)
      | (with_reducible exact deployment_effect.mono _ _ _)
      | (with_reducible exact LeO.refl _)
      | (with_reducible exact LeO.none _)
      | (with_reducible refine LeO.ite ?_ ?_)
      | (with_reducible refine LeO.bind ?_ (fun _ => ?_))
      | exact ih0 _ _ _ _ _ _
      | exact deployment_effect.mono _ _ _
      | exact LeO.none _
      | refine LeO.ite ?_ ?_
      | refine LeO.bind ?_ (fun _ => ?_)
theorem deployment_Active.mono : ∀ a0 a1 a2 k, LeO (deployment_Active.f k a0 a1 a2) (deployment_Active.f (k + 1) a0 a1 a2) := by
  intro a0 a1 a2 k
  have ih0 := deployment_Active.mono_l k
  unfold deployment_Active.f
  repeat' first
      | (with_reducible exact ih0 _ _ _ _ _ _)
      | (with_reducible exact deployment_effect.mono _ _ _)
      | (with_reducible exact LeO.refl _)
      | (with_reducible exact LeO.none _)
      | (with_reducible refine LeO.ite ?_ ?_)
      | (with_reducible refine LeO.bind ?_ (fun _ => ?_))
      | exact ih0 _ _ _ _ _ _
      | exact deployment_effect.mono _ _ _
      | exact LeO.none _
      | refine LeO.ite ?_ ?_
      | refine LeO.bind ?_ (fun _ => ?_)
set_option maxHeartbeats 8000000 in
set_option maxRecDepth 100000 in
theorem deployment_Active.calls (k : Nat) (A0 : Option Addr) (c0 : Nat) (l0 : List (S100)) (a1 : ByteArray) (a2 : Int) (r1 : Int) (r2 : Int) (r3 : Int) (r4 : ByteArray) (r5 : ByteArray) (r6 : ByteArray) (r7 : Bool) (w : World) (hr0 : Kd.C k100 w A0 l0.length l0) (hc0 : l0.length ≤ c0) (h : deployment_Active.f k l0 a1 a2 = some (r1, r2, r3, r4, r5, r6, r7)) :
    Calls Try.prog 39 #[.slice A0 l0.length c0, .string a1, .int .i64 a2] w fun e w' => e = .returned (.tuple #[.agg #[.int .i64 r1, .int .i64 r2, .int .i64 r3, .string r4, .string r5, .string r6], .bool r7]) ∧ Below w.heap.size w w' := by
  have hu100 := Try.underlying100
  have HR0 := Aside0.mk hr0
  have HC0 := Aside0.mk hc0
  clear hr0 hc0
  have HB := Aside0.mk (Below.refl w.heap.size w)
  have H : (deployment_Active.l0 k l0 a1 a2 l0 (l0.length : Int) 0) = some (r1, r2, r3, r4, r5, r6, r7) := h
  clear h
  have H' := Aside0.mk H
  clear H
  go_enter Try.func39, Try.ntmps39
  go_wp2_with (first | ((with_reducible refine gate_dst (N := 6) rfl ?_); refine box_event ?hg (N := 6) ?hd (cs := #[.int .i64 0, .int .i64 0, .int .i64 0, .string (⟨#[]⟩ : ByteArray), .string (⟨#[]⟩ : ByteArray), .string (⟨#[]⟩ : ByteArray)]) (t := 100) ?hr ?_; (case hd => rfl); (case hg => rfl); (case hr => first | (go_simp; done) | (go_simp; rfl)); intro gb158 hg w4 hbox hb; have n0_ := Aside0.mk (below_step (by repeat (first | (with_reducible first | exact HB.out | apply below_alloc | apply pw_below_drewN | apply below_drew1) | exact HB.out)) hb); have n1_ := Aside0.mk (hbox); have n2_ := Aside0.mk ((by rw [hg]; exact (below_size (by repeat (first | (with_reducible first | exact HB.out | apply below_alloc | apply pw_below_drewN | apply below_drew1) | exact HB.out))) : w.heap.size ≤ gb158)); have n3_ := Aside0.mk ((by rw [hg]; exact (below_size (by repeat (first | (with_reducible first | exact HB.out | apply below_alloc | apply pw_below_drewN | apply below_drew1) | exact HB.out))) : w.heap.size ≤ gb158)); clear HB; have HB := n0_; have BK158 := n1_; have GW158 := n2_; have GE158 := n3_; clear n0_ n1_ n2_ n3_; clear hb hbox hg))
  go_loopg [12] k (fun kq v12 w' => ∃ (x12_1 : Int) (x159000_1 : Int) (x159001_1 : Int) (x159002_1 : Int) (x159003_1 : ByteArray) (x159004_1 : ByteArray) (x159005_1 : ByteArray), v12 = .int .i64 x12_1 ∧ Aside0 (deployment_Active.l0 kq l0 a1 a2 l0 (l0.length : Int) x12_1 = some (r1, r2, r3, r4, r5, r6, r7)) ∧ Aside0 (kq ≤ k) ∧ Aside0 (w'.heap[gb158]? = some (.cells #[.int .i64 x159000_1, .int .i64 x159001_1, .int .i64 x159002_1, .string x159003_1, .string x159004_1, .string x159005_1] 100 (0, 0))) ∧ Aside0 (Below w.heap.size w w'))
  case atStart => exact ⟨(0), (0), (0), (0), ((⟨#[]⟩ : ByteArray)), ((⟨#[]⟩ : ByteArray)), ((⟨#[]⟩ : ByteArray)), (by first | rfl | (simp; done) | (simp [*]; done)), H', ⟨Nat.le_refl _⟩, ⟨by (with_reducible repeat (first | refine blk_drewN ?_ _ | refine blk_drew ?_ | refine blk_alloc ?_ _)); exact BK158.out⟩, ⟨by repeat (first | (with_reducible first | exact HB.out | apply below_alloc | apply pw_below_drewN | apply below_drew1 | refine below_set ?_ GE158.out) | exact HB.out)⟩⟩
  case round =>
    clear H'
    try clear p2
    try clear c3
    obtain ⟨x12_1, x159000_1, x159001_1, x159002_1, x159003_1, x159004_1, x159005_1, rfl, HA, HK1, BK158, HB⟩ := hrel
    cases gk with
    | zero => exact absurd HA.out (by simp [deployment_Active.l0])
    | succ k1 =>
      have H := HA.out
      clear HA
      simp only [deployment_Active.l0] at H
      by_cases c5 : x12_1 < (l0.length : Int)
      · rw [if_pos c5] at H
        have c5b0 : decide (x12_1 < (l0.length : Int)) = true := decide_eq_true c5
        clear c5
        by_cases c6 : 0 ≤ x12_1
        · rw [if_pos c6] at H
          have c6b0 : decide (0 ≤ x12_1) = true := decide_eq_true c6
          clear c6
          by_cases c7 : x12_1 < (l0.length : Int)
          · rw [if_pos c7] at H
            have c7b0 : decide (x12_1 < (l0.length : Int)) = true := decide_eq_true c7
            clear c7
            by_cases c8 : ((rd_T100 l0 x12_1).f1) = 1
            · rw [if_pos c8] at H
              have c8b0 : (((rd_T100 l0 x12_1).f1) == 1) = true := beq_iff_eq.mpr c8
              have c8b1 : (((rd_T100 l0 x12_1).f1) != 1) = false := bne_eq_false_iff_eq.mpr c8
              clear c8
              by_cases c9 : ((rd_T100 l0 x12_1).f3).toList = a1.toList
              · rw [if_pos c9] at H
                have c9b0 : (((rd_T100 l0 x12_1).f3).toList == a1.toList) = true := beq_iff_eq.mpr c9
                have c9b1 : (((rd_T100 l0 x12_1).f3).toList != a1.toList) = false := bne_eq_false_iff_eq.mpr c9
                clear c9
                replace H := Option.bind_eq_some_iff.mp H
                obtain ⟨⟨t161, t162⟩, A100, H⟩ := H
                replace H : ((deployment_has.f t161 t162 a2).bind fun t163 => (if t163 = true then (some ((rd_T100 l0 x12_1).f0, (rd_T100 l0 x12_1).f1, (rd_T100 l0 x12_1).f2, (rd_T100 l0 x12_1).f3, (rd_T100 l0 x12_1).f4, (rd_T100 l0 x12_1).f5, true)) else (deployment_Active.l0 k1 l0 a1 a2 l0 (l0.length : Int) (wrap64 (x12_1 + 1))))) = some (r1, r2, r3, r4, r5, r6, r7) := H
                have A10 := Aside0.mk A100
                clear A100
                replace H := Option.bind_eq_some_iff.mp H
                obtain ⟨t163, A110, H⟩ := H
                replace H : (if t163 = true then (some ((rd_T100 l0 x12_1).f0, (rd_T100 l0 x12_1).f1, (rd_T100 l0 x12_1).f2, (rd_T100 l0 x12_1).f3, (rd_T100 l0 x12_1).f4, (rd_T100 l0 x12_1).f5, true)) else (deployment_Active.l0 k1 l0 a1 a2 l0 (l0.length : Int) (wrap64 (x12_1 + 1)))) = some (r1, r2, r3, r4, r5, r6, r7) := H
                have A11 := Aside0.mk A110
                clear A110
                by_cases c12 : t163 = true
                · subst c12
                  have H1 : (some ((rd_T100 l0 x12_1).f0, (rd_T100 l0 x12_1).f1, (rd_T100 l0 x12_1).f2, (rd_T100 l0 x12_1).f3, (rd_T100 l0 x12_1).f4, (rd_T100 l0 x12_1).f5, true)) = some (r1, r2, r3, r4, r5, r6, r7) := by rw [if_pos rfl] at H; exact H
                  clear H
                  have H := H1
                  clear H1
                  simp only [Option.some.injEq, Prod.mk.injEq] at H
                  obtain ⟨rfl, rfl, rfl, rfl, rfl, rfl, rfl⟩ := H
                  have p159 : 0 ≤ (x12_1 : Int) := of_decide_eq_true (by first | (with_reducible assumption) | assumption)
                  have q159 : x12_1 < (l0.length : Int) := of_decide_eq_true (by first | (with_reducible assumption) | assumption)
                  obtain ⟨ad159, e159, hx159_0, hx159_1, hx159_2, hx159_3, hx159_4, hx159_5⟩ := at_T100 HR0.out x12_1 p159 q159
                  cases e159
                  replace hx159_0 := (HB.out.cell (World.block_lt_of_cell? w _ hx159_0)).trans hx159_0
                  replace hx159_1 := (HB.out.cell (World.block_lt_of_cell? w _ hx159_1)).trans hx159_1
                  replace hx159_2 := (HB.out.cell (World.block_lt_of_cell? w _ hx159_2)).trans hx159_2
                  replace hx159_3 := (HB.out.cell (World.block_lt_of_cell? w _ hx159_3)).trans hx159_3
                  replace hx159_4 := (HB.out.cell (World.block_lt_of_cell? w _ hx159_4)).trans hx159_4
                  replace hx159_5 := (HB.out.cell (World.block_lt_of_cell? w _ hx159_5)).trans hx159_5
                  replace p159 := eq_true p159
                  replace q159 := eq_true q159
                  go_wp2_with (first | ((with_reducible refine gate_dst (N := 9) rfl ?_); refine box_event ?hg (N := 9) ?hd (cs := #[.int .i64 0, .int .i64 0, .int .i64 0, .string (⟨#[]⟩ : ByteArray), .string (⟨#[]⟩ : ByteArray), .string (⟨#[]⟩ : ByteArray)]) (t := 100) ?hr ?_; (case hd => rfl); (case hg => rfl); (case hr => first | (go_simp; done) | (go_simp; rfl)); intro gb160 hg w13 hbox hb; have n0_ := Aside0.mk (blk_below (g := gb158) (o := .cells #[.int .i64 x159000_1, .int .i64 x159001_1, .int .i64 x159002_1, .string x159003_1, .string x159004_1, .string x159005_1] 100 (0, 0)) (by (with_reducible repeat (first | refine blk_drewN ?_ _ | refine blk_drew ?_ | refine blk_alloc ?_ _)); exact BK158.out) hb); have n1_ := Aside0.mk (below_step (by repeat (first | (with_reducible first | exact HB.out | apply below_alloc | apply pw_below_drewN | apply below_drew1 | refine below_set ?_ GE158.out) | exact HB.out)) hb); have n2_ := Aside0.mk (hbox); have n3_ := Aside0.mk ((by rw [hg]; exact (below_size (by repeat (first | (with_reducible first | exact HB.out | apply below_alloc | apply pw_below_drewN | apply below_drew1 | refine below_set ?_ GE158.out) | exact HB.out))) : w.heap.size ≤ gb160)); have n4_ := Aside0.mk ((by rw [hg]; exact (below_size (by repeat (first | (with_reducible first | exact HB.out | apply below_alloc | apply pw_below_drewN | apply below_drew1 | refine below_set ?_ GE158.out) | exact HB.out))) : w.heap.size ≤ gb160)); have n5_ := Aside0.mk ((by rw [hg]; exact Nat.ne_of_lt (blk_lt (g := gb158) (o := .cells #[.int .i64 x159000_1, .int .i64 x159001_1, .int .i64 x159002_1, .string x159003_1, .string x159004_1, .string x159005_1] 100 (0, 0)) (by (with_reducible repeat (first | refine blk_drewN ?_ _ | refine blk_drew ?_ | refine blk_alloc ?_ _)); exact BK158.out)) : gb158 ≠ gb160)); have n6_ := Aside0.mk ((by rw [hg]; exact Nat.ne_of_gt (blk_lt (g := gb158) (o := .cells #[.int .i64 x159000_1, .int .i64 x159001_1, .int .i64 x159002_1, .string x159003_1, .string x159004_1, .string x159005_1] 100 (0, 0)) (by (with_reducible repeat (first | refine blk_drewN ?_ _ | refine blk_drew ?_ | refine blk_alloc ?_ _)); exact BK158.out)) : gb160 ≠ gb158)); clear BK158; clear HB; have BK158 := n0_; have HB := n1_; have BK160 := n2_; have GW160 := n3_; have GE160 := n4_; have NB158_160 := n5_; have NB160_158 := n6_; clear n0_ n1_ n2_ n3_ n4_ n5_ n6_; clear hb hbox hg; have hnb14 := NB160_158.out; have hnc14 := NB158_160.out; have hcz15_0 : w13.cell? ⟨gb160, 0, none⟩ = some (.int .i64 0) := (blk_cell BK160.out 0).trans rfl; have hcz15_1 : w13.cell? ⟨gb160, 1, none⟩ = some (.int .i64 0) := (blk_cell BK160.out 1).trans rfl; have hcz15_2 : w13.cell? ⟨gb160, 2, none⟩ = some (.int .i64 0) := (blk_cell BK160.out 2).trans rfl; have hcz15_3 : w13.cell? ⟨gb160, 3, none⟩ = some (.string (⟨#[]⟩ : ByteArray)) := (blk_cell BK160.out 3).trans rfl; have hcz15_4 : w13.cell? ⟨gb160, 4, none⟩ = some (.string (⟨#[]⟩ : ByteArray)) := (blk_cell BK160.out 4).trans rfl; have hcz15_5 : w13.cell? ⟨gb160, 5, none⟩ = some (.string (⟨#[]⟩ : ByteArray)) := (blk_cell BK160.out 5).trans rfl; have hfz15_0 := blk_frozen BK160.out 0; have hfz15_1 := blk_frozen BK160.out 1; have hfz15_2 := blk_frozen BK160.out 2; have hfz15_3 := blk_frozen BK160.out 3; have hfz15_4 := blk_frozen BK160.out 4; have hfz15_5 := blk_frozen BK160.out 5) | (go_at_call 72; (with_reducible refine (deployment_effect.calls k1 _ _ l0 x12_1 t161 t162 _ ?side1 ?side2 A10.out).mono ?_); (case side1 => exact Kd.C_below HR0.out (by repeat (first | (with_reducible first | exact HB.out | apply below_alloc | apply pw_below_drewN | apply below_drew1 | refine below_set ?_ GE158.out | refine below_set ?_ GE160.out) | exact HB.out))); (case side2 => exact HC0.out); rintro e w16 ⟨rfl, hb⟩; have n0_ := Aside0.mk (blk_below (g := gb158) (o := .cells #[.int .i64 x159000_1, .int .i64 x159001_1, .int .i64 x159002_1, .string x159003_1, .string x159004_1, .string x159005_1] 100 (0, 0)) (by (with_reducible repeat (first | refine blk_drewN ?_ _ | refine blk_drew ?_ | refine blk_alloc ?_ _)); refine blk_far ?_ NB158_160.out _; (with_reducible repeat (first | refine blk_drewN ?_ _ | refine blk_drew ?_ | refine blk_alloc ?_ _)); refine blk_far ?_ NB158_160.out _; (with_reducible repeat (first | refine blk_drewN ?_ _ | refine blk_drew ?_ | refine blk_alloc ?_ _)); refine blk_far ?_ NB158_160.out _; (with_reducible repeat (first | refine blk_drewN ?_ _ | refine blk_drew ?_ | refine blk_alloc ?_ _)); refine blk_far ?_ NB158_160.out _; (with_reducible repeat (first | refine blk_drewN ?_ _ | refine blk_drew ?_ | refine blk_alloc ?_ _)); refine blk_far ?_ NB158_160.out _; (with_reducible repeat (first | refine blk_drewN ?_ _ | refine blk_drew ?_ | refine blk_alloc ?_ _)); refine blk_far ?_ NB158_160.out _; (with_reducible repeat (first | refine blk_drewN ?_ _ | refine blk_drew ?_ | refine blk_alloc ?_ _)); exact BK158.out) hb); have n1_ := Aside0.mk (blk_below (g := gb160) (o := .cells #[.int .i64 ((rd_T100 l0 x12_1).f0), .int .i64 ((rd_T100 l0 x12_1).f1), .int .i64 ((rd_T100 l0 x12_1).f2), .string ((rd_T100 l0 x12_1).f3), .string ((rd_T100 l0 x12_1).f4), .string ((rd_T100 l0 x12_1).f5)] 100 (0, 0)) (by (with_reducible repeat (first | refine blk_drewN ?_ _ | refine blk_drew ?_ | refine blk_alloc ?_ _)); refine blk_put (cs := #[.int .i64 ((rd_T100 l0 x12_1).f0), .int .i64 ((rd_T100 l0 x12_1).f1), .int .i64 ((rd_T100 l0 x12_1).f2), .string ((rd_T100 l0 x12_1).f3), .string ((rd_T100 l0 x12_1).f4), .string (⟨#[]⟩ : ByteArray)]) ?_ 5 _ rfl; (with_reducible repeat (first | refine blk_drewN ?_ _ | refine blk_drew ?_ | refine blk_alloc ?_ _)); refine blk_put (cs := #[.int .i64 ((rd_T100 l0 x12_1).f0), .int .i64 ((rd_T100 l0 x12_1).f1), .int .i64 ((rd_T100 l0 x12_1).f2), .string ((rd_T100 l0 x12_1).f3), .string (⟨#[]⟩ : ByteArray), .string (⟨#[]⟩ : ByteArray)]) ?_ 4 _ rfl; (with_reducible repeat (first | refine blk_drewN ?_ _ | refine blk_drew ?_ | refine blk_alloc ?_ _)); refine blk_put (cs := #[.int .i64 ((rd_T100 l0 x12_1).f0), .int .i64 ((rd_T100 l0 x12_1).f1), .int .i64 ((rd_T100 l0 x12_1).f2), .string (⟨#[]⟩ : ByteArray), .string (⟨#[]⟩ : ByteArray), .string (⟨#[]⟩ : ByteArray)]) ?_ 3 _ rfl; (with_reducible repeat (first | refine blk_drewN ?_ _ | refine blk_drew ?_ | refine blk_alloc ?_ _)); refine blk_put (cs := #[.int .i64 ((rd_T100 l0 x12_1).f0), .int .i64 ((rd_T100 l0 x12_1).f1), .int .i64 0, .string (⟨#[]⟩ : ByteArray), .string (⟨#[]⟩ : ByteArray), .string (⟨#[]⟩ : ByteArray)]) ?_ 2 _ rfl; (with_reducible repeat (first | refine blk_drewN ?_ _ | refine blk_drew ?_ | refine blk_alloc ?_ _)); refine blk_put (cs := #[.int .i64 ((rd_T100 l0 x12_1).f0), .int .i64 0, .int .i64 0, .string (⟨#[]⟩ : ByteArray), .string (⟨#[]⟩ : ByteArray), .string (⟨#[]⟩ : ByteArray)]) ?_ 1 _ rfl; (with_reducible repeat (first | refine blk_drewN ?_ _ | refine blk_drew ?_ | refine blk_alloc ?_ _)); refine blk_put (cs := #[.int .i64 0, .int .i64 0, .int .i64 0, .string (⟨#[]⟩ : ByteArray), .string (⟨#[]⟩ : ByteArray), .string (⟨#[]⟩ : ByteArray)]) ?_ 0 _ rfl; (with_reducible repeat (first | refine blk_drewN ?_ _ | refine blk_drew ?_ | refine blk_alloc ?_ _)); exact BK160.out) hb); have n2_ := Aside0.mk (below_step (by repeat (first | (with_reducible first | exact HB.out | apply below_alloc | apply pw_below_drewN | apply below_drew1 | refine below_set ?_ GE158.out | refine below_set ?_ GE160.out) | exact HB.out)) hb); clear BK158; clear BK160; clear HB; have BK158 := n0_; have BK160 := n1_; have HB := n2_; clear n0_ n1_ n2_; (try clear hb); (try clear hb2); (try clear hk); (try clear hi)) | (go_at_call 71; (with_reducible refine (deployment_has.calls t161 t162 a2 true _ A11.out).mono ?_); rintro e w17 ⟨rfl, hb⟩; have n0_ := Aside0.mk (blk_below (g := gb158) (o := .cells #[.int .i64 x159000_1, .int .i64 x159001_1, .int .i64 x159002_1, .string x159003_1, .string x159004_1, .string x159005_1] 100 (0, 0)) (by (with_reducible repeat (first | refine blk_drewN ?_ _ | refine blk_drew ?_ | refine blk_alloc ?_ _)); exact BK158.out) hb); have n1_ := Aside0.mk (blk_below (g := gb160) (o := .cells #[.int .i64 ((rd_T100 l0 x12_1).f0), .int .i64 ((rd_T100 l0 x12_1).f1), .int .i64 ((rd_T100 l0 x12_1).f2), .string ((rd_T100 l0 x12_1).f3), .string ((rd_T100 l0 x12_1).f4), .string ((rd_T100 l0 x12_1).f5)] 100 (0, 0)) (by (with_reducible repeat (first | refine blk_drewN ?_ _ | refine blk_drew ?_ | refine blk_alloc ?_ _)); exact BK160.out) hb); have n2_ := Aside0.mk (below_step (by repeat (first | (with_reducible first | exact HB.out | apply below_alloc | apply pw_below_drewN | apply below_drew1 | refine below_set ?_ GE158.out | refine below_set ?_ GE160.out) | exact HB.out)) hb); clear BK158; clear BK160; clear HB; have BK158 := n0_; have BK160 := n1_; have HB := n2_; clear n0_ n1_ n2_; (try clear hb); (try clear hb2); (try clear hk); (try clear hi); have hcz18_0 : w17.cell? ⟨gb160, 0, none⟩ = some (.int .i64 ((rd_T100 l0 x12_1).f0)) := (blk_cell BK160.out 0).trans rfl; have hcz18_1 : w17.cell? ⟨gb160, 1, none⟩ = some (.int .i64 ((rd_T100 l0 x12_1).f1)) := (blk_cell BK160.out 1).trans rfl; have hcz18_2 : w17.cell? ⟨gb160, 2, none⟩ = some (.int .i64 ((rd_T100 l0 x12_1).f2)) := (blk_cell BK160.out 2).trans rfl; have hcz18_3 : w17.cell? ⟨gb160, 3, none⟩ = some (.string ((rd_T100 l0 x12_1).f3)) := (blk_cell BK160.out 3).trans rfl; have hcz18_4 : w17.cell? ⟨gb160, 4, none⟩ = some (.string ((rd_T100 l0 x12_1).f4)) := (blk_cell BK160.out 4).trans rfl; have hcz18_5 : w17.cell? ⟨gb160, 5, none⟩ = some (.string ((rd_T100 l0 x12_1).f5)) := (blk_cell BK160.out 5).trans rfl; have hfz18_0 := blk_frozen BK160.out 0; have hfz18_1 := blk_frozen BK160.out 1; have hfz18_2 := blk_frozen BK160.out 2; have hfz18_3 := blk_frozen BK160.out 3; have hfz18_4 := blk_frozen BK160.out 4; have hfz18_5 := blk_frozen BK160.out 5; have hcz19_0 : w17.cell? ⟨gb158, 0, none⟩ = some (.int .i64 x159000_1) := (blk_cell BK158.out 0).trans rfl; have hcz19_1 : w17.cell? ⟨gb158, 1, none⟩ = some (.int .i64 x159001_1) := (blk_cell BK158.out 1).trans rfl; have hcz19_2 : w17.cell? ⟨gb158, 2, none⟩ = some (.int .i64 x159002_1) := (blk_cell BK158.out 2).trans rfl; have hcz19_3 : w17.cell? ⟨gb158, 3, none⟩ = some (.string x159003_1) := (blk_cell BK158.out 3).trans rfl; have hcz19_4 : w17.cell? ⟨gb158, 4, none⟩ = some (.string x159004_1) := (blk_cell BK158.out 4).trans rfl; have hcz19_5 : w17.cell? ⟨gb158, 5, none⟩ = some (.string x159005_1) := (blk_cell BK158.out 5).trans rfl; have hfz19_0 := blk_frozen BK158.out 0; have hfz19_1 := blk_frozen BK158.out 1; have hfz19_2 := blk_frozen BK158.out 2; have hfz19_3 := blk_frozen BK158.out 3; have hfz19_4 := blk_frozen BK158.out 4; have hfz19_5 := blk_frozen BK158.out 5))
                  refine bodyPost_ret (results_ct rfl _ _ gb158 100 #[.int .i64 ((rd_T100 l0 x12_1).f0), .int .i64 ((rd_T100 l0 x12_1).f1), .int .i64 ((rd_T100 l0 x12_1).f2), .string ((rd_T100 l0 x12_1).f3), .string ((rd_T100 l0 x12_1).f4), .string ((rd_T100 l0 x12_1).f5)] (0, 0) _ rfl (by (with_reducible repeat (first | refine blk_drewN ?_ _ | refine blk_drew ?_ | refine blk_alloc ?_ _)); refine blk_put (cs := #[.int .i64 ((rd_T100 l0 x12_1).f0), .int .i64 ((rd_T100 l0 x12_1).f1), .int .i64 ((rd_T100 l0 x12_1).f2), .string ((rd_T100 l0 x12_1).f3), .string ((rd_T100 l0 x12_1).f4), .string x159005_1]) ?_ 5 _ rfl; (with_reducible repeat (first | refine blk_drewN ?_ _ | refine blk_drew ?_ | refine blk_alloc ?_ _)); refine blk_put (cs := #[.int .i64 ((rd_T100 l0 x12_1).f0), .int .i64 ((rd_T100 l0 x12_1).f1), .int .i64 ((rd_T100 l0 x12_1).f2), .string ((rd_T100 l0 x12_1).f3), .string x159004_1, .string x159005_1]) ?_ 4 _ rfl; (with_reducible repeat (first | refine blk_drewN ?_ _ | refine blk_drew ?_ | refine blk_alloc ?_ _)); refine blk_put (cs := #[.int .i64 ((rd_T100 l0 x12_1).f0), .int .i64 ((rd_T100 l0 x12_1).f1), .int .i64 ((rd_T100 l0 x12_1).f2), .string x159003_1, .string x159004_1, .string x159005_1]) ?_ 3 _ rfl; (with_reducible repeat (first | refine blk_drewN ?_ _ | refine blk_drew ?_ | refine blk_alloc ?_ _)); refine blk_put (cs := #[.int .i64 ((rd_T100 l0 x12_1).f0), .int .i64 ((rd_T100 l0 x12_1).f1), .int .i64 x159002_1, .string x159003_1, .string x159004_1, .string x159005_1]) ?_ 2 _ rfl; (with_reducible repeat (first | refine blk_drewN ?_ _ | refine blk_drew ?_ | refine blk_alloc ?_ _)); refine blk_put (cs := #[.int .i64 ((rd_T100 l0 x12_1).f0), .int .i64 x159001_1, .int .i64 x159002_1, .string x159003_1, .string x159004_1, .string x159005_1]) ?_ 1 _ rfl; (with_reducible repeat (first | refine blk_drewN ?_ _ | refine blk_drew ?_ | refine blk_alloc ?_ _)); refine blk_put (cs := #[.int .i64 x159000_1, .int .i64 x159001_1, .int .i64 x159002_1, .string x159003_1, .string x159004_1, .string x159005_1]) ?_ 0 _ rfl; (with_reducible repeat (first | refine blk_drewN ?_ _ | refine blk_drew ?_ | refine blk_alloc ?_ _)); exact BK158.out) Try.underlying100 rfl (by kernel_rfl)) rfl ?_
                  exact ⟨by first | rfl | (simp [errW_none, errW_some] <;> rfl) | (simp [*, errW_none, errW_some] <;> rfl), by repeat (first | (with_reducible first | exact HB.out | apply below_alloc | apply pw_below_drewN | apply below_drew1 | refine below_set ?_ GE158.out | refine below_set ?_ GE160.out) | exact HB.out)⟩
                · replace c12 := Bool.eq_false_iff.mpr c12
                  subst c12
                  have H1 : (deployment_Active.l0 k1 l0 a1 a2 l0 (l0.length : Int) (wrap64 (x12_1 + 1))) = some (r1, r2, r3, r4, r5, r6, r7) := by rw [if_neg (show ¬ (false = true) by decide)] at H; exact H
                  clear H
                  have H := H1
                  clear H1
                  have H' := Aside0.mk H
                  clear H
                  have p159 : 0 ≤ (x12_1 : Int) := of_decide_eq_true (by first | (with_reducible assumption) | assumption)
                  have q159 : x12_1 < (l0.length : Int) := of_decide_eq_true (by first | (with_reducible assumption) | assumption)
                  obtain ⟨ad159, e159, hx159_0, hx159_1, hx159_2, hx159_3, hx159_4, hx159_5⟩ := at_T100 HR0.out x12_1 p159 q159
                  cases e159
                  replace hx159_0 := (HB.out.cell (World.block_lt_of_cell? w _ hx159_0)).trans hx159_0
                  replace hx159_1 := (HB.out.cell (World.block_lt_of_cell? w _ hx159_1)).trans hx159_1
                  replace hx159_2 := (HB.out.cell (World.block_lt_of_cell? w _ hx159_2)).trans hx159_2
                  replace hx159_3 := (HB.out.cell (World.block_lt_of_cell? w _ hx159_3)).trans hx159_3
                  replace hx159_4 := (HB.out.cell (World.block_lt_of_cell? w _ hx159_4)).trans hx159_4
                  replace hx159_5 := (HB.out.cell (World.block_lt_of_cell? w _ hx159_5)).trans hx159_5
                  replace p159 := eq_true p159
                  replace q159 := eq_true q159
                  go_wp2_with (first | ((with_reducible refine gate_dst (N := 9) rfl ?_); refine box_event ?hg (N := 9) ?hd (cs := #[.int .i64 0, .int .i64 0, .int .i64 0, .string (⟨#[]⟩ : ByteArray), .string (⟨#[]⟩ : ByteArray), .string (⟨#[]⟩ : ByteArray)]) (t := 100) ?hr ?_; (case hd => rfl); (case hg => rfl); (case hr => first | (go_simp; done) | (go_simp; rfl)); intro gb160 hg w20 hbox hb; have n0_ := Aside0.mk (blk_below (g := gb158) (o := .cells #[.int .i64 x159000_1, .int .i64 x159001_1, .int .i64 x159002_1, .string x159003_1, .string x159004_1, .string x159005_1] 100 (0, 0)) (by (with_reducible repeat (first | refine blk_drewN ?_ _ | refine blk_drew ?_ | refine blk_alloc ?_ _)); exact BK158.out) hb); have n1_ := Aside0.mk (below_step (by repeat (first | (with_reducible first | exact HB.out | apply below_alloc | apply pw_below_drewN | apply below_drew1 | refine below_set ?_ GE158.out) | exact HB.out)) hb); have n2_ := Aside0.mk (hbox); have n3_ := Aside0.mk ((by rw [hg]; exact (below_size (by repeat (first | (with_reducible first | exact HB.out | apply below_alloc | apply pw_below_drewN | apply below_drew1 | refine below_set ?_ GE158.out) | exact HB.out))) : w.heap.size ≤ gb160)); have n4_ := Aside0.mk ((by rw [hg]; exact (below_size (by repeat (first | (with_reducible first | exact HB.out | apply below_alloc | apply pw_below_drewN | apply below_drew1 | refine below_set ?_ GE158.out) | exact HB.out))) : w.heap.size ≤ gb160)); have n5_ := Aside0.mk ((by rw [hg]; exact Nat.ne_of_lt (blk_lt (g := gb158) (o := .cells #[.int .i64 x159000_1, .int .i64 x159001_1, .int .i64 x159002_1, .string x159003_1, .string x159004_1, .string x159005_1] 100 (0, 0)) (by (with_reducible repeat (first | refine blk_drewN ?_ _ | refine blk_drew ?_ | refine blk_alloc ?_ _)); exact BK158.out)) : gb158 ≠ gb160)); have n6_ := Aside0.mk ((by rw [hg]; exact Nat.ne_of_gt (blk_lt (g := gb158) (o := .cells #[.int .i64 x159000_1, .int .i64 x159001_1, .int .i64 x159002_1, .string x159003_1, .string x159004_1, .string x159005_1] 100 (0, 0)) (by (with_reducible repeat (first | refine blk_drewN ?_ _ | refine blk_drew ?_ | refine blk_alloc ?_ _)); exact BK158.out)) : gb160 ≠ gb158)); clear BK158; clear HB; have BK158 := n0_; have HB := n1_; have BK160 := n2_; have GW160 := n3_; have GE160 := n4_; have NB158_160 := n5_; have NB160_158 := n6_; clear n0_ n1_ n2_ n3_ n4_ n5_ n6_; clear hb hbox hg; have hnb21 := NB160_158.out; have hnc21 := NB158_160.out; have hcz22_0 : w20.cell? ⟨gb160, 0, none⟩ = some (.int .i64 0) := (blk_cell BK160.out 0).trans rfl; have hcz22_1 : w20.cell? ⟨gb160, 1, none⟩ = some (.int .i64 0) := (blk_cell BK160.out 1).trans rfl; have hcz22_2 : w20.cell? ⟨gb160, 2, none⟩ = some (.int .i64 0) := (blk_cell BK160.out 2).trans rfl; have hcz22_3 : w20.cell? ⟨gb160, 3, none⟩ = some (.string (⟨#[]⟩ : ByteArray)) := (blk_cell BK160.out 3).trans rfl; have hcz22_4 : w20.cell? ⟨gb160, 4, none⟩ = some (.string (⟨#[]⟩ : ByteArray)) := (blk_cell BK160.out 4).trans rfl; have hcz22_5 : w20.cell? ⟨gb160, 5, none⟩ = some (.string (⟨#[]⟩ : ByteArray)) := (blk_cell BK160.out 5).trans rfl; have hfz22_0 := blk_frozen BK160.out 0; have hfz22_1 := blk_frozen BK160.out 1; have hfz22_2 := blk_frozen BK160.out 2; have hfz22_3 := blk_frozen BK160.out 3; have hfz22_4 := blk_frozen BK160.out 4; have hfz22_5 := blk_frozen BK160.out 5) | (go_at_call 72; (with_reducible refine (deployment_effect.calls k1 _ _ l0 x12_1 t161 t162 _ ?side1 ?side2 A10.out).mono ?_); (case side1 => exact Kd.C_below HR0.out (by repeat (first | (with_reducible first | exact HB.out | apply below_alloc | apply pw_below_drewN | apply below_drew1 | refine below_set ?_ GE158.out | refine below_set ?_ GE160.out) | exact HB.out))); (case side2 => exact HC0.out); rintro e w23 ⟨rfl, hb⟩; have n0_ := Aside0.mk (blk_below (g := gb158) (o := .cells #[.int .i64 x159000_1, .int .i64 x159001_1, .int .i64 x159002_1, .string x159003_1, .string x159004_1, .string x159005_1] 100 (0, 0)) (by (with_reducible repeat (first | refine blk_drewN ?_ _ | refine blk_drew ?_ | refine blk_alloc ?_ _)); refine blk_far ?_ NB158_160.out _; (with_reducible repeat (first | refine blk_drewN ?_ _ | refine blk_drew ?_ | refine blk_alloc ?_ _)); refine blk_far ?_ NB158_160.out _; (with_reducible repeat (first | refine blk_drewN ?_ _ | refine blk_drew ?_ | refine blk_alloc ?_ _)); refine blk_far ?_ NB158_160.out _; (with_reducible repeat (first | refine blk_drewN ?_ _ | refine blk_drew ?_ | refine blk_alloc ?_ _)); refine blk_far ?_ NB158_160.out _; (with_reducible repeat (first | refine blk_drewN ?_ _ | refine blk_drew ?_ | refine blk_alloc ?_ _)); refine blk_far ?_ NB158_160.out _; (with_reducible repeat (first | refine blk_drewN ?_ _ | refine blk_drew ?_ | refine blk_alloc ?_ _)); refine blk_far ?_ NB158_160.out _; (with_reducible repeat (first | refine blk_drewN ?_ _ | refine blk_drew ?_ | refine blk_alloc ?_ _)); exact BK158.out) hb); have n1_ := Aside0.mk (blk_below (g := gb160) (o := .cells #[.int .i64 ((rd_T100 l0 x12_1).f0), .int .i64 ((rd_T100 l0 x12_1).f1), .int .i64 ((rd_T100 l0 x12_1).f2), .string ((rd_T100 l0 x12_1).f3), .string ((rd_T100 l0 x12_1).f4), .string ((rd_T100 l0 x12_1).f5)] 100 (0, 0)) (by (with_reducible repeat (first | refine blk_drewN ?_ _ | refine blk_drew ?_ | refine blk_alloc ?_ _)); refine blk_put (cs := #[.int .i64 ((rd_T100 l0 x12_1).f0), .int .i64 ((rd_T100 l0 x12_1).f1), .int .i64 ((rd_T100 l0 x12_1).f2), .string ((rd_T100 l0 x12_1).f3), .string ((rd_T100 l0 x12_1).f4), .string (⟨#[]⟩ : ByteArray)]) ?_ 5 _ rfl; (with_reducible repeat (first | refine blk_drewN ?_ _ | refine blk_drew ?_ | refine blk_alloc ?_ _)); refine blk_put (cs := #[.int .i64 ((rd_T100 l0 x12_1).f0), .int .i64 ((rd_T100 l0 x12_1).f1), .int .i64 ((rd_T100 l0 x12_1).f2), .string ((rd_T100 l0 x12_1).f3), .string (⟨#[]⟩ : ByteArray), .string (⟨#[]⟩ : ByteArray)]) ?_ 4 _ rfl; (with_reducible repeat (first | refine blk_drewN ?_ _ | refine blk_drew ?_ | refine blk_alloc ?_ _)); refine blk_put (cs := #[.int .i64 ((rd_T100 l0 x12_1).f0), .int .i64 ((rd_T100 l0 x12_1).f1), .int .i64 ((rd_T100 l0 x12_1).f2), .string (⟨#[]⟩ : ByteArray), .string (⟨#[]⟩ : ByteArray), .string (⟨#[]⟩ : ByteArray)]) ?_ 3 _ rfl; (with_reducible repeat (first | refine blk_drewN ?_ _ | refine blk_drew ?_ | refine blk_alloc ?_ _)); refine blk_put (cs := #[.int .i64 ((rd_T100 l0 x12_1).f0), .int .i64 ((rd_T100 l0 x12_1).f1), .int .i64 0, .string (⟨#[]⟩ : ByteArray), .string (⟨#[]⟩ : ByteArray), .string (⟨#[]⟩ : ByteArray)]) ?_ 2 _ rfl; (with_reducible repeat (first | refine blk_drewN ?_ _ | refine blk_drew ?_ | refine blk_alloc ?_ _)); refine blk_put (cs := #[.int .i64 ((rd_T100 l0 x12_1).f0), .int .i64 0, .int .i64 0, .string (⟨#[]⟩ : ByteArray), .string (⟨#[]⟩ : ByteArray), .string (⟨#[]⟩ : ByteArray)]) ?_ 1 _ rfl; (with_reducible repeat (first | refine blk_drewN ?_ _ | refine blk_drew ?_ | refine blk_alloc ?_ _)); refine blk_put (cs := #[.int .i64 0, .int .i64 0, .int .i64 0, .string (⟨#[]⟩ : ByteArray), .string (⟨#[]⟩ : ByteArray), .string (⟨#[]⟩ : ByteArray)]) ?_ 0 _ rfl; (with_reducible repeat (first | refine blk_drewN ?_ _ | refine blk_drew ?_ | refine blk_alloc ?_ _)); exact BK160.out) hb); have n2_ := Aside0.mk (below_step (by repeat (first | (with_reducible first | exact HB.out | apply below_alloc | apply pw_below_drewN | apply below_drew1 | refine below_set ?_ GE158.out | refine below_set ?_ GE160.out) | exact HB.out)) hb); clear BK158; clear BK160; clear HB; have BK158 := n0_; have BK160 := n1_; have HB := n2_; clear n0_ n1_ n2_; (try clear hb); (try clear hb2); (try clear hk); (try clear hi)) | (go_at_call 71; (with_reducible refine (deployment_has.calls t161 t162 a2 false _ A11.out).mono ?_); rintro e w24 ⟨rfl, hb⟩; have n0_ := Aside0.mk (blk_below (g := gb158) (o := .cells #[.int .i64 x159000_1, .int .i64 x159001_1, .int .i64 x159002_1, .string x159003_1, .string x159004_1, .string x159005_1] 100 (0, 0)) (by (with_reducible repeat (first | refine blk_drewN ?_ _ | refine blk_drew ?_ | refine blk_alloc ?_ _)); exact BK158.out) hb); have n1_ := Aside0.mk (blk_below (g := gb160) (o := .cells #[.int .i64 ((rd_T100 l0 x12_1).f0), .int .i64 ((rd_T100 l0 x12_1).f1), .int .i64 ((rd_T100 l0 x12_1).f2), .string ((rd_T100 l0 x12_1).f3), .string ((rd_T100 l0 x12_1).f4), .string ((rd_T100 l0 x12_1).f5)] 100 (0, 0)) (by (with_reducible repeat (first | refine blk_drewN ?_ _ | refine blk_drew ?_ | refine blk_alloc ?_ _)); exact BK160.out) hb); have n2_ := Aside0.mk (below_step (by repeat (first | (with_reducible first | exact HB.out | apply below_alloc | apply pw_below_drewN | apply below_drew1 | refine below_set ?_ GE158.out | refine below_set ?_ GE160.out) | exact HB.out)) hb); clear BK158; clear BK160; clear HB; have BK158 := n0_; have BK160 := n1_; have HB := n2_; clear n0_ n1_ n2_; (try clear hb); (try clear hb2); (try clear hk); (try clear hi)))
                  go_roundg k1
                  case measure => have := HK1.out; omega
                  case rel => exact ⟨(wrap64 (x12_1 + 1)), (x159000_1), (x159001_1), (x159002_1), (x159003_1), (x159004_1), (x159005_1), (by first | rfl | (simp; done) | (simp [*]; done)), H', ⟨by have := HK1.out; omega⟩, ⟨by (with_reducible repeat (first | refine blk_drewN ?_ _ | refine blk_drew ?_ | refine blk_alloc ?_ _)); exact BK158.out⟩, ⟨by repeat (first | (with_reducible first | exact HB.out | apply below_alloc | apply pw_below_drewN | apply below_drew1 | refine below_set ?_ GE158.out | refine below_set ?_ GE160.out) | exact HB.out)⟩⟩
              · rw [if_neg c9] at H
                have c9b0 : (((rd_T100 l0 x12_1).f3).toList == a1.toList) = false := beq_eq_false_iff_ne.mpr c9
                have c9b1 : (((rd_T100 l0 x12_1).f3).toList != a1.toList) = true := bne_iff_ne.mpr c9
                have H' := Aside0.mk H
                clear H
                have p159 : 0 ≤ (x12_1 : Int) := of_decide_eq_true (by first | (with_reducible assumption) | assumption)
                have q159 : x12_1 < (l0.length : Int) := of_decide_eq_true (by first | (with_reducible assumption) | assumption)
                obtain ⟨ad159, e159, hx159_0, hx159_1, hx159_2, hx159_3, hx159_4, hx159_5⟩ := at_T100 HR0.out x12_1 p159 q159
                cases e159
                replace hx159_0 := (HB.out.cell (World.block_lt_of_cell? w _ hx159_0)).trans hx159_0
                replace hx159_1 := (HB.out.cell (World.block_lt_of_cell? w _ hx159_1)).trans hx159_1
                replace hx159_2 := (HB.out.cell (World.block_lt_of_cell? w _ hx159_2)).trans hx159_2
                replace hx159_3 := (HB.out.cell (World.block_lt_of_cell? w _ hx159_3)).trans hx159_3
                replace hx159_4 := (HB.out.cell (World.block_lt_of_cell? w _ hx159_4)).trans hx159_4
                replace hx159_5 := (HB.out.cell (World.block_lt_of_cell? w _ hx159_5)).trans hx159_5
                replace p159 := eq_true p159
                replace q159 := eq_true q159
                go_wp2_with (first | ((with_reducible refine gate_dst (N := 9) rfl ?_); refine box_event ?hg (N := 9) ?hd (cs := #[.int .i64 0, .int .i64 0, .int .i64 0, .string (⟨#[]⟩ : ByteArray), .string (⟨#[]⟩ : ByteArray), .string (⟨#[]⟩ : ByteArray)]) (t := 100) ?hr ?_; (case hd => rfl); (case hg => rfl); (case hr => first | (go_simp; done) | (go_simp; rfl)); intro gb160 hg w25 hbox hb; have n0_ := Aside0.mk (blk_below (g := gb158) (o := .cells #[.int .i64 x159000_1, .int .i64 x159001_1, .int .i64 x159002_1, .string x159003_1, .string x159004_1, .string x159005_1] 100 (0, 0)) (by (with_reducible repeat (first | refine blk_drewN ?_ _ | refine blk_drew ?_ | refine blk_alloc ?_ _)); exact BK158.out) hb); have n1_ := Aside0.mk (below_step (by repeat (first | (with_reducible first | exact HB.out | apply below_alloc | apply pw_below_drewN | apply below_drew1 | refine below_set ?_ GE158.out) | exact HB.out)) hb); have n2_ := Aside0.mk (hbox); have n3_ := Aside0.mk ((by rw [hg]; exact (below_size (by repeat (first | (with_reducible first | exact HB.out | apply below_alloc | apply pw_below_drewN | apply below_drew1 | refine below_set ?_ GE158.out) | exact HB.out))) : w.heap.size ≤ gb160)); have n4_ := Aside0.mk ((by rw [hg]; exact (below_size (by repeat (first | (with_reducible first | exact HB.out | apply below_alloc | apply pw_below_drewN | apply below_drew1 | refine below_set ?_ GE158.out) | exact HB.out))) : w.heap.size ≤ gb160)); have n5_ := Aside0.mk ((by rw [hg]; exact Nat.ne_of_lt (blk_lt (g := gb158) (o := .cells #[.int .i64 x159000_1, .int .i64 x159001_1, .int .i64 x159002_1, .string x159003_1, .string x159004_1, .string x159005_1] 100 (0, 0)) (by (with_reducible repeat (first | refine blk_drewN ?_ _ | refine blk_drew ?_ | refine blk_alloc ?_ _)); exact BK158.out)) : gb158 ≠ gb160)); have n6_ := Aside0.mk ((by rw [hg]; exact Nat.ne_of_gt (blk_lt (g := gb158) (o := .cells #[.int .i64 x159000_1, .int .i64 x159001_1, .int .i64 x159002_1, .string x159003_1, .string x159004_1, .string x159005_1] 100 (0, 0)) (by (with_reducible repeat (first | refine blk_drewN ?_ _ | refine blk_drew ?_ | refine blk_alloc ?_ _)); exact BK158.out)) : gb160 ≠ gb158)); clear BK158; clear HB; have BK158 := n0_; have HB := n1_; have BK160 := n2_; have GW160 := n3_; have GE160 := n4_; have NB158_160 := n5_; have NB160_158 := n6_; clear n0_ n1_ n2_ n3_ n4_ n5_ n6_; clear hb hbox hg; have hnb26 := NB160_158.out; have hnc26 := NB158_160.out; have hcz27_0 : w25.cell? ⟨gb160, 0, none⟩ = some (.int .i64 0) := (blk_cell BK160.out 0).trans rfl; have hcz27_1 : w25.cell? ⟨gb160, 1, none⟩ = some (.int .i64 0) := (blk_cell BK160.out 1).trans rfl; have hcz27_2 : w25.cell? ⟨gb160, 2, none⟩ = some (.int .i64 0) := (blk_cell BK160.out 2).trans rfl; have hcz27_3 : w25.cell? ⟨gb160, 3, none⟩ = some (.string (⟨#[]⟩ : ByteArray)) := (blk_cell BK160.out 3).trans rfl; have hcz27_4 : w25.cell? ⟨gb160, 4, none⟩ = some (.string (⟨#[]⟩ : ByteArray)) := (blk_cell BK160.out 4).trans rfl; have hcz27_5 : w25.cell? ⟨gb160, 5, none⟩ = some (.string (⟨#[]⟩ : ByteArray)) := (blk_cell BK160.out 5).trans rfl; have hfz27_0 := blk_frozen BK160.out 0; have hfz27_1 := blk_frozen BK160.out 1; have hfz27_2 := blk_frozen BK160.out 2; have hfz27_3 := blk_frozen BK160.out 3; have hfz27_4 := blk_frozen BK160.out 4; have hfz27_5 := blk_frozen BK160.out 5))
                go_roundg k1
                case measure => have := HK1.out; omega
                case rel => exact ⟨(wrap64 (x12_1 + 1)), (x159000_1), (x159001_1), (x159002_1), (x159003_1), (x159004_1), (x159005_1), (by first | rfl | (simp; done) | (simp [*]; done)), H', ⟨by have := HK1.out; omega⟩, ⟨by (with_reducible repeat (first | refine blk_drewN ?_ _ | refine blk_drew ?_ | refine blk_alloc ?_ _)); refine blk_far ?_ NB158_160.out _; (with_reducible repeat (first | refine blk_drewN ?_ _ | refine blk_drew ?_ | refine blk_alloc ?_ _)); refine blk_far ?_ NB158_160.out _; (with_reducible repeat (first | refine blk_drewN ?_ _ | refine blk_drew ?_ | refine blk_alloc ?_ _)); refine blk_far ?_ NB158_160.out _; (with_reducible repeat (first | refine blk_drewN ?_ _ | refine blk_drew ?_ | refine blk_alloc ?_ _)); refine blk_far ?_ NB158_160.out _; (with_reducible repeat (first | refine blk_drewN ?_ _ | refine blk_drew ?_ | refine blk_alloc ?_ _)); refine blk_far ?_ NB158_160.out _; (with_reducible repeat (first | refine blk_drewN ?_ _ | refine blk_drew ?_ | refine blk_alloc ?_ _)); refine blk_far ?_ NB158_160.out _; (with_reducible repeat (first | refine blk_drewN ?_ _ | refine blk_drew ?_ | refine blk_alloc ?_ _)); exact BK158.out⟩, ⟨by repeat (first | (with_reducible first | exact HB.out | apply below_alloc | apply pw_below_drewN | apply below_drew1 | refine below_set ?_ GE158.out | refine below_set ?_ GE160.out) | exact HB.out)⟩⟩
            · rw [if_neg c8] at H
              have c8b0 : (((rd_T100 l0 x12_1).f1) == 1) = false := beq_eq_false_iff_ne.mpr c8
              have c8b1 : (((rd_T100 l0 x12_1).f1) != 1) = true := bne_iff_ne.mpr c8
              have H' := Aside0.mk H
              clear H
              have p159 : 0 ≤ (x12_1 : Int) := of_decide_eq_true (by first | (with_reducible assumption) | assumption)
              have q159 : x12_1 < (l0.length : Int) := of_decide_eq_true (by first | (with_reducible assumption) | assumption)
              obtain ⟨ad159, e159, hx159_0, hx159_1, hx159_2, hx159_3, hx159_4, hx159_5⟩ := at_T100 HR0.out x12_1 p159 q159
              cases e159
              replace hx159_0 := (HB.out.cell (World.block_lt_of_cell? w _ hx159_0)).trans hx159_0
              replace hx159_1 := (HB.out.cell (World.block_lt_of_cell? w _ hx159_1)).trans hx159_1
              replace hx159_2 := (HB.out.cell (World.block_lt_of_cell? w _ hx159_2)).trans hx159_2
              replace hx159_3 := (HB.out.cell (World.block_lt_of_cell? w _ hx159_3)).trans hx159_3
              replace hx159_4 := (HB.out.cell (World.block_lt_of_cell? w _ hx159_4)).trans hx159_4
              replace hx159_5 := (HB.out.cell (World.block_lt_of_cell? w _ hx159_5)).trans hx159_5
              replace p159 := eq_true p159
              replace q159 := eq_true q159
              go_wp2_with (first | ((with_reducible refine gate_dst (N := 9) rfl ?_); refine box_event ?hg (N := 9) ?hd (cs := #[.int .i64 0, .int .i64 0, .int .i64 0, .string (⟨#[]⟩ : ByteArray), .string (⟨#[]⟩ : ByteArray), .string (⟨#[]⟩ : ByteArray)]) (t := 100) ?hr ?_; (case hd => rfl); (case hg => rfl); (case hr => first | (go_simp; done) | (go_simp; rfl)); intro gb160 hg w28 hbox hb; have n0_ := Aside0.mk (blk_below (g := gb158) (o := .cells #[.int .i64 x159000_1, .int .i64 x159001_1, .int .i64 x159002_1, .string x159003_1, .string x159004_1, .string x159005_1] 100 (0, 0)) (by (with_reducible repeat (first | refine blk_drewN ?_ _ | refine blk_drew ?_ | refine blk_alloc ?_ _)); exact BK158.out) hb); have n1_ := Aside0.mk (below_step (by repeat (first | (with_reducible first | exact HB.out | apply below_alloc | apply pw_below_drewN | apply below_drew1 | refine below_set ?_ GE158.out) | exact HB.out)) hb); have n2_ := Aside0.mk (hbox); have n3_ := Aside0.mk ((by rw [hg]; exact (below_size (by repeat (first | (with_reducible first | exact HB.out | apply below_alloc | apply pw_below_drewN | apply below_drew1 | refine below_set ?_ GE158.out) | exact HB.out))) : w.heap.size ≤ gb160)); have n4_ := Aside0.mk ((by rw [hg]; exact (below_size (by repeat (first | (with_reducible first | exact HB.out | apply below_alloc | apply pw_below_drewN | apply below_drew1 | refine below_set ?_ GE158.out) | exact HB.out))) : w.heap.size ≤ gb160)); have n5_ := Aside0.mk ((by rw [hg]; exact Nat.ne_of_lt (blk_lt (g := gb158) (o := .cells #[.int .i64 x159000_1, .int .i64 x159001_1, .int .i64 x159002_1, .string x159003_1, .string x159004_1, .string x159005_1] 100 (0, 0)) (by (with_reducible repeat (first | refine blk_drewN ?_ _ | refine blk_drew ?_ | refine blk_alloc ?_ _)); exact BK158.out)) : gb158 ≠ gb160)); have n6_ := Aside0.mk ((by rw [hg]; exact Nat.ne_of_gt (blk_lt (g := gb158) (o := .cells #[.int .i64 x159000_1, .int .i64 x159001_1, .int .i64 x159002_1, .string x159003_1, .string x159004_1, .string x159005_1] 100 (0, 0)) (by (with_reducible repeat (first | refine blk_drewN ?_ _ | refine blk_drew ?_ | refine blk_alloc ?_ _)); exact BK158.out)) : gb160 ≠ gb158)); clear BK158; clear HB; have BK158 := n0_; have HB := n1_; have BK160 := n2_; have GW160 := n3_; have GE160 := n4_; have NB158_160 := n5_; have NB160_158 := n6_; clear n0_ n1_ n2_ n3_ n4_ n5_ n6_; clear hb hbox hg; have hnb29 := NB160_158.out; have hnc29 := NB158_160.out; have hcz30_0 : w28.cell? ⟨gb160, 0, none⟩ = some (.int .i64 0) := (blk_cell BK160.out 0).trans rfl; have hcz30_1 : w28.cell? ⟨gb160, 1, none⟩ = some (.int .i64 0) := (blk_cell BK160.out 1).trans rfl; have hcz30_2 : w28.cell? ⟨gb160, 2, none⟩ = some (.int .i64 0) := (blk_cell BK160.out 2).trans rfl; have hcz30_3 : w28.cell? ⟨gb160, 3, none⟩ = some (.string (⟨#[]⟩ : ByteArray)) := (blk_cell BK160.out 3).trans rfl; have hcz30_4 : w28.cell? ⟨gb160, 4, none⟩ = some (.string (⟨#[]⟩ : ByteArray)) := (blk_cell BK160.out 4).trans rfl; have hcz30_5 : w28.cell? ⟨gb160, 5, none⟩ = some (.string (⟨#[]⟩ : ByteArray)) := (blk_cell BK160.out 5).trans rfl; have hfz30_0 := blk_frozen BK160.out 0; have hfz30_1 := blk_frozen BK160.out 1; have hfz30_2 := blk_frozen BK160.out 2; have hfz30_3 := blk_frozen BK160.out 3; have hfz30_4 := blk_frozen BK160.out 4; have hfz30_5 := blk_frozen BK160.out 5))
              go_roundg k1
              case measure => have := HK1.out; omega
              case rel => exact ⟨(wrap64 (x12_1 + 1)), (x159000_1), (x159001_1), (x159002_1), (x159003_1), (x159004_1), (x159005_1), (by first | rfl | (simp; done) | (simp [*]; done)), H', ⟨by have := HK1.out; omega⟩, ⟨by (with_reducible repeat (first | refine blk_drewN ?_ _ | refine blk_drew ?_ | refine blk_alloc ?_ _)); refine blk_far ?_ NB158_160.out _; (with_reducible repeat (first | refine blk_drewN ?_ _ | refine blk_drew ?_ | refine blk_alloc ?_ _)); refine blk_far ?_ NB158_160.out _; (with_reducible repeat (first | refine blk_drewN ?_ _ | refine blk_drew ?_ | refine blk_alloc ?_ _)); refine blk_far ?_ NB158_160.out _; (with_reducible repeat (first | refine blk_drewN ?_ _ | refine blk_drew ?_ | refine blk_alloc ?_ _)); refine blk_far ?_ NB158_160.out _; (with_reducible repeat (first | refine blk_drewN ?_ _ | refine blk_drew ?_ | refine blk_alloc ?_ _)); refine blk_far ?_ NB158_160.out _; (with_reducible repeat (first | refine blk_drewN ?_ _ | refine blk_drew ?_ | refine blk_alloc ?_ _)); refine blk_far ?_ NB158_160.out _; (with_reducible repeat (first | refine blk_drewN ?_ _ | refine blk_drew ?_ | refine blk_alloc ?_ _)); exact BK158.out⟩, ⟨by repeat (first | (with_reducible first | exact HB.out | apply below_alloc | apply pw_below_drewN | apply below_drew1 | refine below_set ?_ GE158.out | refine below_set ?_ GE160.out) | exact HB.out)⟩⟩
          · rw [if_neg c7] at H
            exact absurd H (by simp)
        · rw [if_neg c6] at H
          exact absurd H (by simp)
      · rw [if_neg c5] at H
        have c5b0 : decide (x12_1 < (l0.length : Int)) = false := decide_eq_false c5
        clear c5
        simp only [Option.some.injEq, Prod.mk.injEq] at H
        obtain ⟨rfl, rfl, rfl, rfl, rfl, rfl, rfl⟩ := H
        have hcz31_0 : wr.cell? ⟨gb158, 0, none⟩ = some (.int .i64 x159000_1) := (blk_cell BK158.out 0).trans rfl
        have hcz31_1 : wr.cell? ⟨gb158, 1, none⟩ = some (.int .i64 x159001_1) := (blk_cell BK158.out 1).trans rfl
        have hcz31_2 : wr.cell? ⟨gb158, 2, none⟩ = some (.int .i64 x159002_1) := (blk_cell BK158.out 2).trans rfl
        have hcz31_3 : wr.cell? ⟨gb158, 3, none⟩ = some (.string x159003_1) := (blk_cell BK158.out 3).trans rfl
        have hcz31_4 : wr.cell? ⟨gb158, 4, none⟩ = some (.string x159004_1) := (blk_cell BK158.out 4).trans rfl
        have hcz31_5 : wr.cell? ⟨gb158, 5, none⟩ = some (.string x159005_1) := (blk_cell BK158.out 5).trans rfl
        have hfz31_0 := blk_frozen BK158.out 0
        have hfz31_1 := blk_frozen BK158.out 1
        have hfz31_2 := blk_frozen BK158.out 2
        have hfz31_3 := blk_frozen BK158.out 3
        have hfz31_4 := blk_frozen BK158.out 4
        have hfz31_5 := blk_frozen BK158.out 5
        go_wp2
        refine bodyPost_ret (results_ct rfl _ _ gb158 100 #[.int .i64 0, .int .i64 0, .int .i64 0, .string (⟨#[]⟩ : ByteArray), .string (⟨#[]⟩ : ByteArray), .string (⟨#[]⟩ : ByteArray)] (0, 0) _ rfl (by (with_reducible repeat (first | refine blk_drewN ?_ _ | refine blk_drew ?_ | refine blk_alloc ?_ _)); refine blk_put (cs := #[.int .i64 0, .int .i64 0, .int .i64 0, .string (⟨#[]⟩ : ByteArray), .string (⟨#[]⟩ : ByteArray), .string x159005_1]) ?_ 5 _ rfl; (with_reducible repeat (first | refine blk_drewN ?_ _ | refine blk_drew ?_ | refine blk_alloc ?_ _)); refine blk_put (cs := #[.int .i64 0, .int .i64 0, .int .i64 0, .string (⟨#[]⟩ : ByteArray), .string x159004_1, .string x159005_1]) ?_ 4 _ rfl; (with_reducible repeat (first | refine blk_drewN ?_ _ | refine blk_drew ?_ | refine blk_alloc ?_ _)); refine blk_put (cs := #[.int .i64 0, .int .i64 0, .int .i64 0, .string x159003_1, .string x159004_1, .string x159005_1]) ?_ 3 _ rfl; (with_reducible repeat (first | refine blk_drewN ?_ _ | refine blk_drew ?_ | refine blk_alloc ?_ _)); refine blk_put (cs := #[.int .i64 0, .int .i64 0, .int .i64 x159002_1, .string x159003_1, .string x159004_1, .string x159005_1]) ?_ 2 _ rfl; (with_reducible repeat (first | refine blk_drewN ?_ _ | refine blk_drew ?_ | refine blk_alloc ?_ _)); refine blk_put (cs := #[.int .i64 0, .int .i64 x159001_1, .int .i64 x159002_1, .string x159003_1, .string x159004_1, .string x159005_1]) ?_ 1 _ rfl; (with_reducible repeat (first | refine blk_drewN ?_ _ | refine blk_drew ?_ | refine blk_alloc ?_ _)); refine blk_put (cs := #[.int .i64 x159000_1, .int .i64 x159001_1, .int .i64 x159002_1, .string x159003_1, .string x159004_1, .string x159005_1]) ?_ 0 _ rfl; (with_reducible repeat (first | refine blk_drewN ?_ _ | refine blk_drew ?_ | refine blk_alloc ?_ _)); exact BK158.out) Try.underlying100 rfl (by kernel_rfl)) rfl ?_
        exact ⟨by first | rfl | (simp [errW_none, errW_some] <;> rfl) | (simp [*, errW_none, errW_some] <;> rfl), by repeat (first | (with_reducible first | exact HB.out | apply below_alloc | apply pw_below_drewN | apply below_drew1 | refine below_set ?_ GE158.out) | exact HB.out)⟩
end Go.Proofs.Ytdadnapfecmmdaa.P
namespace Go.Proofs.Ytdadnapfecmmdaa.P
set_option linter.unusedVariables false
set_option linter.unusedSimpArgs false
open Go.RowKit Go.Proofs.YtdadnapfecmmdaaW.PrintWords Go.Proofs.YtdadnapfecmmdaaW.PrintLast Go.Proofs.YtdadnapfecmmdaaW.PrintMore
open Go.Proofs.Ytdadnapfecmmdaa.Hm
theorem word_some (a b : Int) : ∃ t, checksum_Word.f a b = some t ∧ 0 ≤ t ∧ t ≤ 18446744073709551615 := by
  unfold checksum_Word.f
  exact ⟨_, rfl, bounds_u64 (wf_bits _ _ _ _)⟩
theorem mix_ex (a b : Int) : ∃ r, checksum_Mix.f a b = some r ∧ 0 ≤ r ∧ r < 4611686018427387904 := by
  obtain ⟨t, ht, h0, h1⟩ := word_some (IntKind.u64.wrap a) (IntKind.u64.wrap b)
  refine ⟨wrap64 (t / 4), ?_, ?_⟩
  · unfold checksum_Mix.f
    rw [ht]
    rfl
  · have : wrap64 (t / 4) = t / 4 := by unfold wrap64; omega
    rw [this]
    omega
def mixV (a b : Int) : Int := (checksum_Mix.f a b).getD 0
theorem mix_some (a b : Int) : checksum_Mix.f a b = some (mixV a b) := by
  obtain ⟨r, h, _⟩ := mix_ex a b
  unfold mixV
  rw [h]
  rfl
theorem mix_range (a b : Int) : 0 ≤ mixV a b ∧ mixV a b < 4611686018427387904 := by
  obtain ⟨r, h, h0⟩ := mix_ex a b
  unfold mixV
  rw [h]
  exact h0
def rollV (seed a b d : Int) : Int := mixV (mixV (mixV seed a) b) d
theorem roll_range (s a b d : Int) : 0 ≤ rollV s a b d ∧ rollV s a b d < 4611686018427387904 := mix_range _ _
theorem roll_some (c : Cfg) (a b d : Int) : simulate_Roll.f c.seed c.sv c.off c.ch c.fl c.sfrom c.sto c.per c.delay c.chunk c.loss c.rep a b d = some (rollV c.seed a b d) := by
  unfold simulate_Roll.f
  simp only [mix_some, Option.bind_some]
  unfold rollV
  with_reducible rfl
theorem roll_calls (c : Cfg) (p : CfgAt) (a b d : Int) (w : World) (hR : CfgR w p c) : Calls Try.prog 10 #[c.val p, .int .i64 a, .int .i64 b, .int .i64 d] w fun e w' => e = .returned (.int .i64 (rollV c.seed a b d)) ∧ Below w.heap.size w w' :=
  simulate_Roll.calls _ _ _ _ _ _ _ _ _ _ _ _ _ _ _ _ _ _ _ _ _ _ _ _ w hR.r1 hR.l1 hR.r2 hR.l2 hR.r3 hR.l3 hR.r4 hR.l4 (roll_some c a b d)
structure SvV where
  x : S64
  A : Option Addr
  c : Nat
def svVal (s : SvV) : Value := .agg (svCells s.x s.A s.c)
def faultsV (name ver : ByteArray) (slot : Int) : List S61 → Int → Int → Int × Int
  | [], w, f => (w, f)
  | x :: r, w, f => if x.f0.toList = name.toList ∧ x.f2.f0 ≤ slot ∧ slot < x.f2.f1 ∧ (x.f1.toList = [] ∨ x.f1.toList = ver.toList) then faultsV name ver slot r (wrap64 (w + x.f3)) (wrap64 (f + x.f4)) else faultsV name ver slot r w f
def strServe : ByteArray := ⟨#[115, 101, 114, 118, 101]⟩
def strCall : ByteArray := ⟨#[99, 97, 108, 108]⟩
def BIG : Int := 1152921504606846976
def setEnd (l : List Sp) (j : Nat) (en : Int) (err : Bool) : List Sp := l.modify j fun s => { s with en := en, err := err }
def callsV (seed delay t i : Int) (x : S64) (ver : ByteArray) (rec : ByteArray → Int → Int → List Sp → Option (Int × Bool × List Sp)) : List ByteArray → Int → Bool → List Sp → Option (Int × Bool × List Sp)
  | [], y, fl, l => some (y, fl, l)
  | nm :: r, y, fl, l =>
    if l.length < 1000 ∧ 0 ≤ y ∧ y ≤ BIG then
      (rec nm ((l.length : Int) + 1) (y + delay + rollV seed t ((l.length : Int) + 1) 2 % (delay + 1)) (l ++ [⟨t, (l.length : Int) + 1, i, 0, x.f1, 2, x.f0, ver, strCall, y, 0, false⟩])).bind fun q =>
        if 0 ≤ q.1 ∧ q.1 ≤ BIG ∧ l.length < q.2.2.length then
          callsV seed delay t i x ver rec r (q.1 + delay + rollV seed t ((l.length : Int) + 1) 3 % (delay + 1)) (fl || q.2.1)
            (setEnd q.2.2 l.length (q.1 + delay + rollV seed t ((l.length : Int) + 1) 3 % (delay + 1)) q.2.1)
        else none
    else none
def serveV (c : Cfg) (slot t : Int) (sm : List (ByteArray × SvV)) : Nat → ByteArray → Int → Int → List Sp → Option (Int × Bool × List Sp)
  | 0, _, _, _, _ => none
  | n + 1, name, parent, x, l =>
    (mget sm name).bind fun sv =>
      (deployment_Active.f n c.ch name slot).bind fun act =>
        if l.length < 1000 ∧ 0 ≤ x ∧ x ≤ BIG ∧ 0 ≤ sv.x.f3 ∧ sv.x.f3 ≤ 1048576 ∧ 0 ≤ sv.x.f2 ∧ sv.x.f2 ≤ 1048576 then
          let ver := act.2.2.2.2.2.1
          let wf := faultsV name ver slot c.fl (sv.x.f2 + rollV c.seed t ((l.length : Int) + 1) 1 % (sv.x.f3 + 1)) sv.x.f4
          if 0 ≤ wf.1 ∧ wf.1 ≤ 1099511627776 then
            (callsV c.seed c.delay t ((l.length : Int) + 1) sv.x ver (serveV c slot t sm n) sv.x.f5 (x + wf.1 / 2) (decide (rollV c.seed t ((l.length : Int) + 1) 4 % 1000000 < wf.2))
              (l ++ [⟨t, (l.length : Int) + 1, parent, 0, sv.x.f1, 3, sv.x.f0, ver, strServe, x, 0, false⟩])).bind fun q =>
              if 0 ≤ q.1 ∧ q.1 ≤ BIG ∧ l.length < q.2.2.length then
                some (q.1 + wf.1 - wf.1 / 2, q.2.1, setEnd q.2.2 l.length (q.1 + wf.1 - wf.1 / 2) q.2.1)
              else none
          else none
        else none
abbrev pv (b : Nat) : Value := .pointer (some ⟨b, 0, none⟩)
structure EnvR (W : World) (bs bm bc bl bb bt bv g base : Nat) (c : Cfg) (p : CfgAt) (slot t : Int) (sm : List (ByteArray × SvV)) : Prop where
  s : W.heap[bs]? = some (.cells #[.map (some bm)] 156 (0, 0))
  m : MapIs W bm Value.string svVal sm
  c : W.heap[bc]? = some (.cells (c.cells p) 31 (0, 0))
  l : W.heap[bl]? = some (.cells #[.int .i64 slot] 3 (0, 0))
  b : W.heap[bb]? = some (.cells #[.func (.func 85) #[] #[pv g, pv bt]] 157 (0, 0))
  t : W.heap[bt]? = some (.cells #[.int .i64 t] 3 (0, 0))
  v : W.heap[bv]? = some (.cells #[.func (.func 86) #[] #[pv bs, pv bc, pv bl, pv bb, pv bt, pv bv, pv g]] 158 (0, 0))
  ns : bs ≠ g
  nm : bm ≠ g
  nc : bc ≠ g
  nl : bl ≠ g
  nb : bb ≠ g
  nt : bt ≠ g
  nv : bv ≠ g
  hg : base ≤ g
  hW : base ≤ W.heap.size
section
variable {W W' : World} {bs bm bc bl bb bt bv g base : Nat} {c : Cfg} {p : CfgAt} {slot t : Int} {sm : List (ByteArray × SvV)}
theorem EnvR.keep (h : EnvR W bs bm bc bl bb bt bv g base c p slot t sm) (k : KeepT W W' g) : EnvR W' bs bm bc bl bb bt bv g base c p slot t sm where
  s := k.cellsBlk h.s h.ns (by decide)
  m := by
    obtain ⟨es, cl, hb, he⟩ := h.m
    exact ⟨es, cl, k.blk hb h.nm (fun _ _ e => by cases e), he⟩
  c := k.cellsBlk h.c h.nc (by decide)
  l := k.cellsBlk h.l h.nl (by decide)
  b := k.cellsBlk h.b h.nb (by decide)
  t := k.cellsBlk h.t h.nt (by decide)
  v := k.cellsBlk h.v h.nv (by decide)
  ns := h.ns
  nm := h.nm
  nc := h.nc
  nl := h.nl
  nb := h.nb
  nt := h.nt
  nv := h.nv
  hg := h.hg
  hW := Nat.le_trans h.hW k.1
theorem SpR.below {l : List Sp} (h : SpR W g base l) (hb : Below W.heap.size W W') : SpR W' g base l := by
  obtain ⟨v, hv, ho⟩ := h
  exact ⟨v, (hb.block g (blk_lt hv)).trans hv, pw_own_below ho hb⟩
theorem SpR.lt {l : List Sp} (h : SpR W g base l) : g < W.heap.size := by
  obtain ⟨v, hv, _⟩ := h
  exact blk_lt hv
theorem setEnd_len (l : List Sp) (j : Nat) (en : Int) (err : Bool) : (setEnd l j en err).length = l.length := by simp [setEnd]
theorem setEnd_eq (l : List Sp) (j : Nat) (en : Int) (err : Bool) (hj : j < l.length) : setEnd l j en err = l.set j { l[j] with en := en, err := err } := by
  unfold setEnd
  apply List.ext_getElem?
  intro i
  rw [List.getElem?_modify, List.getElem?_set]
  by_cases h : j = i
  · subst h
    simp [hj]
  · simp [h]
theorem SpR.stores {l : List Sp} {v : Value} {A : Addr} {cp : Nat} (hv : W.heap[g]? = some (.cells #[.slice (some A) l.length cp] 49 (0, 0))) (ho : W.ownsRow base 56 14 (.slice (some A) l.length cp) l.length (spc l)) (j : Nat) (hj : j < l.length) (en : Int) (err : Bool) :
    SpR ((W.setCell ⟨A.block, A.off + (j * 14 + 10), none⟩ (.int .i64 en)).setCell ⟨A.block, A.off + (j * 14 + 11), none⟩ (.bool err)) g base (setEnd l j en err) := by
  rcases ho.2 with ⟨h, _⟩ | ⟨r, cap, cur, h, hb, hr, h1, h2, h3, h4⟩
  · cases h
  · injection h with ha _ hc
    injection ha with ha
    subst ha
    subst hc
    simp only [Nat.zero_add]
    have hne : g ≠ r := fun e => by
      subst e
      rw [hv] at hr
      injection hr with hr
      injection hr with _ ht
      exact absurd ht (by decide)
    obtain ⟨o1, g1⟩ := ho.stored (j * 14 + 10) (.int .i64 en)
    obtain ⟨o2, g2⟩ := o1.stored (j * 14 + 11) (.bool err)
    rw [spc_set l j 10 (.int .i64 en) { l[j] with en := en } hj (by omega) rfl] at o1 o2
    rw [spc_set (l.set j { l[j] with en := en }) j 11 (.bool err) { l[j] with en := en, err := err } (by simpa using hj) (by omega) (by simp [Sp.cells])] at o2
    refine ⟨.slice (some ⟨r, 0, none⟩) l.length cp, ?_, ?_⟩
    · rw [Below.heap_setCell _ _ _ _ hne, Below.heap_setCell _ _ _ _ hne]
      exact hv
    · rw [setEnd_len, setEnd_eq l j en err hj]
      simpa using o2
end
end Go.Proofs.Ytdadnapfecmmdaa.P
