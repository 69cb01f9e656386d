/- Own texts of a proof about layer 55's simulate (merged): PF72. -/
import Derived.Test.YtdadnapfecmmdaaYc2
import Derived.Test.YtdadnapfecmmdaaYc4
namespace Go.Proofs.Ytdadnapfecmmdaa.P
open Go.RowKit Go.Proofs.YtdadnapfecmmdaaW.PrintWords Go.Proofs.YtdadnapfecmmdaaW.PrintLast Go.Proofs.YtdadnapfecmmdaaW.PrintMore
attribute [local go_sem] max2_int min2_int max_two min_two max_three min_three max_four min_four   -- for this text's walks alone
set_option linter.unusedVariables false
set_option linter.unusedSimpArgs false
attribute [local go_sem high] eqA160
def deployment_effect.l0 : Nat → List (S100) → Int → List (S100) → Int → Int → Int → Int → Option (Int × Int)
  | 0, _, _, _, _, _, _, _ => none
  | k + 1, x0, x1, x17, x18, x19, x145000, x145001 => if x19 < x18 then (if 0 ≤ x19 then (if x19 < (x17.length : Int) then ((deployment_subjectOf.f ((rd_T100 x17 x19).f0) ((rd_T100 x17 x19).f1) ((rd_T100 x17 x19).f2) ((rd_T100 x17 x19).f3) ((rd_T100 x17 x19).f4) ((rd_T100 x17 x19).f5)).bind fun bt151 => (if 0 ≤ x1 then (if x1 < (x0.length : Int) then ((deployment_subjectOf.f ((rd_T100 x0 x1).f0) ((rd_T100 x0 x1).f1) ((rd_T100 x0 x1).f2) ((rd_T100 x0 x1).f3) ((rd_T100 x0 x1).f4) ((rd_T100 x0 x1).f5)).bind fun bt155 => (if (bt151.1 == bt155.1 && (bt151.2.1.toList == bt155.2.1.toList && (bt151.2.2.toList == bt155.2.2.toList))) = true then (if x145000 ≥ ((rd_T100 x17 x19).f2) then (some (0, 0)) else (some (x145000, (rd_T100 x17 x19).f2))) else (deployment_effect.l0 k x0 x1 x17 x18 (wrap64 (x19 + 1)) x145000 x145001))) else (none)) else (none))) else (none)) else (none)) else (if x145000 ≥ x145001 then (some (0, 0)) else (some (x145000, x145001)))
def deployment_effect.f (k : Nat) (l0 : List (S100)) (a1 : Int) : Option (Int × Int) := if 0 ≤ a1 then (if a1 < (l0.length : Int) then (if 0 ≤ (wrap64 (a1 + 1)) then (if (wrap64 (a1 + 1)) ≤ (l0.length : Int) then ((some (l0.drop ((wrap64 (a1 + 1)) : Int).toNat : List (S100))).bind fun y145 => (deployment_effect.l0 k l0 a1 y145 (y145.length : Int) 0 ((rd_T100 l0 a1).f2) 1048577)) else (none)) else (none)) else (none)) else (none)
theorem deployment_effect.mono_l : ∀ k, (∀ y0 y1 y2 y3 y4 y5 y6, LeO (deployment_effect.l0 k y0 y1 y2 y3 y4 y5 y6) (deployment_effect.l0 (k + 1) y0 y1 y2 y3 y4 y5 y6))
  | 0 => fun _ _ _ _ _ _ _ r h => by simp [deployment_effect.l0] at h
  | k + 1 => by
    have ih0 := deployment_effect.mono_l k
    · intro y0 y1 y2 y3 y4 y5 y6
      unfold deployment_effect.l0
      repeat' first
      | (with_reducible exact ih0 _ _ _ _ _ _ _)
      | (with_reducible exact LeO.refl _)
      | (with_reducible exact LeO.none _)
      | (with_reducible refine LeO.ite ?_ ?_)
      | (with_reducible refine LeO.bind ?_ (fun _ => ?_))
      | exact ih0 _ _ _ _ _ _ _
      | exact LeO.none _
      | refine LeO.ite ?_ ?_
      | refine LeO.bind ?_ (fun _ => ?_)
theorem deployment_effect.mono : ∀ a0 a1 k, LeO (deployment_effect.f k a0 a1) (deployment_effect.f (k + 1) a0 a1) := by
  intro a0 a1 k
  have ih0 := deployment_effect.mono_l k
  unfold deployment_effect.f
  repeat' first
      | (with_reducible exact ih0 _ _ _ _ _ _ _)
      | (with_reducible exact LeO.refl _)
      | (with_reducible exact LeO.none _)
      | (with_reducible refine LeO.ite ?_ ?_)
      | (with_reducible refine LeO.bind ?_ (fun _ => ?_))
      | exact ih0 _ _ _ _ _ _ _
      | exact LeO.none _
      | refine LeO.ite ?_ ?_
      | refine LeO.bind ?_ (fun _ => ?_)
def deployment_effect.T5 : Bool × List (List Nat × List Nat) := (true, [([], []), ([0], [0]), ([], []), ([], []), ([2, 3], [2, 3]), ([4], [4]), ([5, 1], [5]), ([1, 6], [1, 6])])
def deployment_effect.B5 : List Nat := [0, 1, 0, 0, 12, 28, 63, 127]
theorem deployment_effect.tab5 : rtab .any (opsOf Try.f72 5) = deployment_effect.T5 := by kernel_rfl
theorem deployment_effect.bits5 : waitsOk deployment_effect.T5.2 deployment_effect.B5 = true := by kernel_rfl
set_option maxHeartbeats 8000000 in
set_option maxRecDepth 100000 in
theorem deployment_effect.calls (k : Nat) (A0 : Option Addr) (c0 : Nat) (l0 : List (S100)) (a1 : Int) (r1 : Int) (r2 : Int) (w : World) (hr0 : Kd.C k100 w A0 l0.length l0) (hc0 : l0.length ≤ c0) (h : deployment_effect.f k l0 a1 = some (r1, r2)) :
    Calls Try.prog 72 #[.slice A0 l0.length c0, .int .i64 a1] w fun e w' => e = .returned (.agg #[.int .i64 r1, .int .i64 r2]) ∧ Below w.heap.size w w' := by
  have hu29 := Try.underlying29
  have hu100 := Try.underlying100
  have HR0 := Aside0.mk hr0
  have HC0 := Aside0.mk hc0
  clear hr0 hc0
  have HB := Aside0.mk (Below.refl w.heap.size w)
  have H : (if 0 ≤ a1 then (if a1 < (l0.length : Int) then (if 0 ≤ (wrap64 (a1 + 1)) then (if (wrap64 (a1 + 1)) ≤ (l0.length : Int) then ((some (l0.drop ((wrap64 (a1 + 1)) : Int).toNat : List (S100))).bind fun y145 => (deployment_effect.l0 k l0 a1 y145 (y145.length : Int) 0 ((rd_T100 l0 a1).f2) 1048577)) else (none)) else (none)) else (none)) else (none)) = some (r1, r2) := h
  clear h
  by_cases c3 : 0 ≤ a1
  · rw [if_pos c3] at H
    have c3b0 : decide (0 ≤ a1) = true := decide_eq_true c3
    clear c3
    by_cases c4 : a1 < (l0.length : Int)
    · rw [if_pos c4] at H
      have c4b0 : decide (a1 < (l0.length : Int)) = true := decide_eq_true c4
      clear c4
      obtain ⟨ji5, hji5⟩ : ∃ j_ : Int, (wrap64 (a1 + 1)) = j_ := ⟨_, rfl⟩
      replace H : (if 0 ≤ (ji5) then (if (ji5) ≤ (l0.length : Int) then ((some (l0.drop ((ji5) : Int).toNat : List (S100))).bind fun y145 => (deployment_effect.l0 k l0 a1 y145 (y145.length : Int) 0 ((rd_T100 l0 a1).f2) 1048577)) else (none)) else (none)) = some (r1, r2) := by first | (rw [hji5] at H; exact H) | (simp only [hji5] at H ⊢; exact H)
      have hji5w : (IntKind.i64.wrap (a1 + 1)) = ji5 := (i64_w _).trans hji5
      by_cases c6 : 0 ≤ (ji5)
      · rw [if_pos c6] at H
        have c6b0 := eq_true c6
        have c6b1 : decide (0 ≤ (ji5)) = true := decide_eq_true c6
        clear c6
        by_cases c7 : (ji5) ≤ (l0.length : Int)
        · rw [if_pos c7] at H
          have c7b0 := eq_true c7
          have c7b1 : decide ((ji5) ≤ (l0.length : Int)) = true := decide_eq_true c7
          clear c7
          obtain ⟨y145, hy145⟩ : ∃ y_ : List (S100), y_ = (l0.drop ((ji5) : Int).toNat) := ⟨_, rfl⟩
          replace H : (deployment_effect.l0 k l0 a1 y145 (y145.length : Int) 0 ((rd_T100 l0 a1).f2) 1048577) = some (r1, r2) := by first | (rw [hy145]; with_reducible exact H) | (have H2_ := (Option.bind_some _ _).symm.trans H; rw [hy145]; with_reducible exact H2_) | (have H2_ := (Option.bind_some _ _).symm.trans H; with_reducible exact H2_) | with_reducible exact H | (rw [hy145]; exact H) | exact H
          have Ny145 := Aside0.mk hy145
          clear hy145
          have H' := Aside0.mk H
          clear H
          go_enter Try.func72, Try.ntmps72
          go_wp2_with (first | ((with_reducible refine gate_dst (N := 4) rfl ?_); refine box_event ?hg (N := 4) ?hd (cs := #[.int .i64 0, .int .i64 0]) (t := 29) ?hr ?_; (case hd => rfl); (case hg => rfl); (case hr => first | (go_simp; done) | (go_simp; rfl)); intro gb142 hg w8 hbox hb; have n0_ := Aside0.mk (below_step (by repeat (first | (with_reducible first | exact HB.out | apply below_alloc | apply pw_below_drewN | apply below_drew1) | exact HB.out)) hb); have n1_ := Aside0.mk (hbox); have n2_ := Aside0.mk ((by rw [hg]; exact (below_size (by repeat (first | (with_reducible first | exact HB.out | apply below_alloc | apply pw_below_drewN | apply below_drew1) | exact HB.out))) : w.heap.size ≤ gb142)); have n3_ := Aside0.mk ((by rw [hg]; exact (below_size (by repeat (first | (with_reducible first | exact HB.out | apply below_alloc | apply pw_below_drewN | apply below_drew1) | exact HB.out))) : w.heap.size ≤ gb142)); clear HB; have HB := n0_; have BK142 := n1_; have GW142 := n2_; have GE142 := n3_; clear n0_ n1_ n2_ n3_; clear hb hbox hg; have p143 : 0 ≤ (a1 : Int) := of_decide_eq_true (by first | (with_reducible assumption) | assumption); have q143 : a1 < (l0.length : Int) := of_decide_eq_true (by first | (with_reducible assumption) | assumption); obtain ⟨ad143, e143, hx143_0, hx143_1, hx143_2, hx143_3, hx143_4, hx143_5⟩ := at_T100 HR0.out a1 p143 q143; cases e143; replace hx143_0 := (HB.out.cell (World.block_lt_of_cell? w _ hx143_0)).trans hx143_0; replace hx143_1 := (HB.out.cell (World.block_lt_of_cell? w _ hx143_1)).trans hx143_1; replace hx143_2 := (HB.out.cell (World.block_lt_of_cell? w _ hx143_2)).trans hx143_2; replace hx143_3 := (HB.out.cell (World.block_lt_of_cell? w _ hx143_3)).trans hx143_3; replace hx143_4 := (HB.out.cell (World.block_lt_of_cell? w _ hx143_4)).trans hx143_4; replace hx143_5 := (HB.out.cell (World.block_lt_of_cell? w _ hx143_5)).trans hx143_5; replace p143 := eq_true p143; replace q143 := eq_true q143) | ((with_reducible refine gate_dst (N := 5) rfl ?_); refine box_event ?hg (N := 5) ?hd (cs := #[.int .i64 0, .int .i64 0]) (t := 29) ?hr ?_; (case hd => rfl); (case hg => rfl); (case hr => first | (go_simp; done) | (go_simp; rfl)); intro gb144 hg w9 hbox hb; have n0_ := Aside0.mk (blk_below (g := gb142) (o := .cells #[.int .i64 0, .int .i64 0] 29 (0, 0)) (by (with_reducible repeat (first | refine blk_drewN ?_ _ | refine blk_drew ?_ | refine blk_alloc ?_ _)); exact BK142.out) hb); have n1_ := Aside0.mk (below_step (by repeat (first | (with_reducible first | exact HB.out | apply below_alloc | apply pw_below_drewN | apply below_drew1 | refine below_set ?_ GE142.out) | exact HB.out)) hb); have n2_ := Aside0.mk (hbox); have n3_ := Aside0.mk ((by rw [hg]; exact (below_size (by repeat (first | (with_reducible first | exact HB.out | apply below_alloc | apply pw_below_drewN | apply below_drew1 | refine below_set ?_ GE142.out) | exact HB.out))) : w.heap.size ≤ gb144)); have n4_ := Aside0.mk ((by rw [hg]; exact (below_size (by repeat (first | (with_reducible first | exact HB.out | apply below_alloc | apply pw_below_drewN | apply below_drew1 | refine below_set ?_ GE142.out) | exact HB.out))) : w.heap.size ≤ gb144)); have n5_ := Aside0.mk ((by rw [hg]; exact Nat.ne_of_lt (blk_lt (g := gb142) (o := .cells #[.int .i64 0, .int .i64 0] 29 (0, 0)) (by (with_reducible repeat (first | refine blk_drewN ?_ _ | refine blk_drew ?_ | refine blk_alloc ?_ _)); exact BK142.out)) : gb142 ≠ gb144)); have n6_ := Aside0.mk ((by rw [hg]; exact Nat.ne_of_gt (blk_lt (g := gb142) (o := .cells #[.int .i64 0, .int .i64 0] 29 (0, 0)) (by (with_reducible repeat (first | refine blk_drewN ?_ _ | refine blk_drew ?_ | refine blk_alloc ?_ _)); exact BK142.out)) : gb144 ≠ gb142)); clear BK142; clear HB; have BK142 := n0_; have HB := n1_; have BK144 := n2_; have GW144 := n3_; have GE144 := n4_; have NB142_144 := n5_; have NB144_142 := n6_; clear n0_ n1_ n2_ n3_ n4_ n5_ n6_; clear hb hbox hg; have hnb10 := NB144_142.out; have hnc10 := NB142_144.out; have hcz11_0 : w9.cell? ⟨gb144, 0, none⟩ = some (.int .i64 0) := (blk_cell BK144.out 0).trans rfl; have hcz11_1 : w9.cell? ⟨gb144, 1, none⟩ = some (.int .i64 0) := (blk_cell BK144.out 1).trans rfl; have hfz11_0 := blk_frozen BK144.out 0; have hfz11_1 := blk_frozen BK144.out 1) | ((with_reducible refine gate_store (t := 29) (p := 5) rfl ?_); refine store_event (t := 29) (p := 5) (v := ?vo_w12) (w1 := ((w9.setCell ⟨gb144, 0, none⟩ (.int .i64 ((rd_T100 l0 a1).f2))).setCell ⟨gb144, 1, none⟩ (.int .i64 1048577))) ?hg ?ho ?hn ?hr ?_; (case ho => rfl); (case hg => rfl); (case hn => rfl); (case hr => first | (go_simp; done) | (go_simp; rfl)); intro w12 hw; have n0_ : Aside0 (w12.heap[gb142]? = some (.cells #[.int .i64 0, .int .i64 0] 29 (0, 0))) := ⟨(by rw [hw]; exact (by (with_reducible repeat (first | refine blk_drewN ?_ _ | refine blk_drew ?_ | refine blk_alloc ?_ _)); refine blk_far ?_ NB142_144.out _; (with_reducible repeat (first | refine blk_drewN ?_ _ | refine blk_drew ?_ | refine blk_alloc ?_ _)); refine blk_far ?_ NB142_144.out _; (with_reducible repeat (first | refine blk_drewN ?_ _ | refine blk_drew ?_ | refine blk_alloc ?_ _)); exact BK142.out))⟩; have n1_ : Aside0 (w12.heap[gb144]? = some (.cells #[.int .i64 ((rd_T100 l0 a1).f2), .int .i64 1048577] 29 (0, 0))) := ⟨(by rw [hw]; exact (by (with_reducible repeat (first | refine blk_drewN ?_ _ | refine blk_drew ?_ | refine blk_alloc ?_ _)); refine blk_put (cs := #[.int .i64 ((rd_T100 l0 a1).f2), .int .i64 0]) ?_ 1 _ rfl; (with_reducible repeat (first | refine blk_drewN ?_ _ | refine blk_drew ?_ | refine blk_alloc ?_ _)); refine blk_put (cs := #[.int .i64 0, .int .i64 0]) ?_ 0 _ rfl; (with_reducible repeat (first | refine blk_drewN ?_ _ | refine blk_drew ?_ | refine blk_alloc ?_ _)); exact BK144.out))⟩; have n2_ : Aside0 (Below w.heap.size w w12) := ⟨(by rw [hw]; exact (by repeat (first | (with_reducible first | exact HB.out | apply below_alloc | apply pw_below_drewN | apply below_drew1 | refine below_set ?_ GE142.out | refine below_set ?_ GE144.out) | exact HB.out)))⟩; clear hw; clear BK142; clear BK144; clear HB; have BK142 := n0_; have BK144 := n1_; have HB := n2_; clear n0_ n1_ n2_; have q13 : ((ji5) : Int) ≤ ((l0.length : Int) : Int) := of_decide_eq_true (by first | (with_reducible assumption) | assumption); obtain ⟨i013, hi013, _, hsz13, _⟩ := info_parts info100; have hroom13 : l0.length ≤ c0 := HC0.out; have hC13 : Kd.C k100 _ (some ad143) l0.length l0 := HR0.out; have q013 : (0 : Int) ≤ ((ji5) : Int) := of_decide_eq_true (by first | (with_reducible assumption) | assumption); have hcut13 := cut_from (P := Try.prog) 26 100 .i64 Try.underlying26 hi013 6 hsz13 (some ad143) l0.length c0 (ji5) q013 q13; have hr13 := Kd.C_drop (m := ((ji5) : Int).toNat) (c := c0) hC13 (by omega) hroom13; obtain ⟨A13, hA13⟩ : ∃ A1, A1 = (if c0 = ((ji5) : Int).toNat then (some ad143) else ((some ad143) : Option Addr).map (·.add (((ji5) : Int).toNat * 6))) := ⟨_, rfl⟩; obtain ⟨c13, hc13⟩ : ∃ c1, c1 = c0 - ((ji5) : Int).toNat := ⟨_, rfl⟩; have hy13 : y145.length = l0.length - ((ji5) : Int).toNat := (by rw [Ny145.out, List.length_drop] <;> omega); rw [show (l0).drop ((ji5) : Int).toNat = y145 from Ny145.out.symm] at hr13; replace hr13 : Kd.C k100 _ A13 y145.length y145 := (by rw [hA13]; exact hr13); rw [← hy13, ← hA13, ← hc13] at hcut13; have HR148 := Aside0.mk hr13; have HC148 := Aside0.mk (show y145.length ≤ c13 from by rw [hy13, hc13]; exact Nat.sub_le_sub_right hroom13 _); clear hr13 hC13 hroom13 hi013 hsz13 hc13; have KY13 := Aside0.mk hy13; have KA13 := Aside0.mk hA13; clear hy13 hA13; replace q13 := eq_true q13))
          go_loopg [19] k (fun kq v19 w' => ∃ (x19_1 : Int) (x145001_1 : Int), v19 = .int .i64 x19_1 ∧ Aside0 (deployment_effect.l0 kq l0 a1 y145 (y145.length : Int) x19_1 ((rd_T100 l0 a1).f2) x145001_1 = some (r1, r2)) ∧ Aside0 (kq ≤ k) ∧ Aside0 (w'.heap[gb142]? = some (.cells #[.int .i64 0, .int .i64 0] 29 (0, 0))) ∧ Aside0 (w'.heap[gb144]? = some (.cells #[.int .i64 ((rd_T100 l0 a1).f2), .int .i64 x145001_1] 29 (0, 0))) ∧ Aside0 (Below w.heap.size w w'))
          case atStart => exact ⟨(0), (1048577), (by first | rfl | (simp; done) | (simp [*]; done)), H', ⟨Nat.le_refl _⟩, ⟨by (with_reducible repeat (first | refine blk_drewN ?_ _ | refine blk_drew ?_ | refine blk_alloc ?_ _)); exact BK142.out⟩, ⟨by (with_reducible repeat (first | refine blk_drewN ?_ _ | refine blk_drew ?_ | refine blk_alloc ?_ _)); exact BK144.out⟩, ⟨by repeat (first | (with_reducible first | exact HB.out | apply below_alloc | apply pw_below_drewN | apply below_drew1 | refine below_set ?_ GE142.out | refine below_set ?_ GE144.out) | exact HB.out)⟩⟩
          case round =>
            clear H'
            try clear c1
            try clear p1
            try clear q1
            try clear hx1
            try clear p2
            try clear c3
            try clear c3b0
            try clear c4
            try clear c4b0
            try clear c6
            try clear c6b0
            try clear c6b1
            try clear p6
            try clear c7
            try clear c7b0
            try clear c7b1
            try clear c10
            try clear c13
            try clear q13
            try clear hcz11_0
            try clear hcz11_1
            try clear hfz11_0
            try clear hfz11_1
            try clear hx143_0
            try clear hx143_1
            try clear hx143_2
            try clear hx143_3
            try clear hx143_4
            try clear hx143_5
            try clear p143
            try clear q013
            try clear q13
            try clear q143
            obtain ⟨x19_1, x145001_1, rfl, HA, HK1, BK142, BK144, HB⟩ := hrel
            cases gk with
            | zero => exact absurd HA.out (by simp [deployment_effect.l0])
            | succ k1 =>
              have H := HA.out
              clear HA
              simp only [deployment_effect.l0] at H
              by_cases c14 : x19_1 < (y145.length : Int)
              · rw [if_pos c14] at H
                have c14b0 : decide (x19_1 < (y145.length : Int)) = true := decide_eq_true c14
                clear c14
                by_cases c15 : 0 ≤ x19_1
                · rw [if_pos c15] at H
                  have c15b0 : decide (0 ≤ x19_1) = true := decide_eq_true c15
                  clear c15
                  by_cases c16 : x19_1 < (y145.length : Int)
                  · rw [if_pos c16] at H
                    have c16b0 : decide (x19_1 < (y145.length : Int)) = true := decide_eq_true c16
                    clear c16
                    replace H := Option.bind_eq_some_iff.mp H
                    obtain ⟨⟨t151, t152, t153⟩, A170, H⟩ := H
                    replace H : (if 0 ≤ a1 then (if a1 < (l0.length : Int) then ((deployment_subjectOf.f ((rd_T100 l0 a1).f0) ((rd_T100 l0 a1).f1) ((rd_T100 l0 a1).f2) ((rd_T100 l0 a1).f3) ((rd_T100 l0 a1).f4) ((rd_T100 l0 a1).f5)).bind fun bt155 => (if (t151 == bt155.1 && (t152.toList == bt155.2.1.toList && (t153.toList == bt155.2.2.toList))) = true then (if ((rd_T100 l0 a1).f2) ≥ ((rd_T100 y145 x19_1).f2) then (some (0, 0)) else (some (((rd_T100 l0 a1).f2), (rd_T100 y145 x19_1).f2))) else (deployment_effect.l0 k1 l0 a1 y145 (y145.length : Int) (wrap64 (x19_1 + 1)) ((rd_T100 l0 a1).f2) x145001_1))) else (none)) else (none)) = some (r1, r2) := H
                    have A17 := Aside0.mk A170
                    clear A170
                    by_cases c18 : 0 ≤ a1
                    · rw [if_pos c18] at H
                      have c18b0 : decide (0 ≤ a1) = true := decide_eq_true c18
                      clear c18
                      by_cases c19 : a1 < (l0.length : Int)
                      · rw [if_pos c19] at H
                        have c19b0 : decide (a1 < (l0.length : Int)) = true := decide_eq_true c19
                        clear c19
                        replace H := Option.bind_eq_some_iff.mp H
                        obtain ⟨⟨t155, t156, t157⟩, A200, H⟩ := H
                        replace H : (if (t151 == t155 && (t152.toList == t156.toList && (t153.toList == t157.toList))) = true then (if ((rd_T100 l0 a1).f2) ≥ ((rd_T100 y145 x19_1).f2) then (some (0, 0)) else (some (((rd_T100 l0 a1).f2), (rd_T100 y145 x19_1).f2))) else (deployment_effect.l0 k1 l0 a1 y145 (y145.length : Int) (wrap64 (x19_1 + 1)) ((rd_T100 l0 a1).f2) x145001_1)) = some (r1, r2) := H
                        have A20 := Aside0.mk A200
                        clear A200
                        by_cases c21 : (t151 == t155 && (t152.toList == t156.toList && (t153.toList == t157.toList))) = true
                        · rw [if_pos c21] at H
                          have c21b0 : (t151 == t155 && (t152.toList == t156.toList && (t153.toList == t157.toList))) = true := c21
                          (try (have c21b1 : decide (t151 = t155 && (t152.toList == t156.toList && (t153.toList == t157.toList))) = true := by simpa using c21))
                          (try (have c21b2 : (t151 == t155 && (t152.toList == t156.toList && (t153.toList == t157.toList))) = true := by simpa using c21))
                          clear c21
                          by_cases c22 : ((rd_T100 l0 a1).f2) ≥ ((rd_T100 y145 x19_1).f2)
                          · rw [if_pos c22] at H
                            have c22b0 : decide (((rd_T100 y145 x19_1).f2) ≤ ((rd_T100 l0 a1).f2)) = true := decide_eq_true c22
                            clear c22
                            simp only [Option.some.injEq, Prod.mk.injEq] at H
                            obtain ⟨rfl, rfl⟩ := H
                            have p149 : 0 ≤ (x19_1 : Int) := of_decide_eq_true (by first | (with_reducible assumption) | assumption)
                            have q149 : x19_1 < (y145.length : Int) := of_decide_eq_true (by first | (with_reducible assumption) | assumption)
                            obtain ⟨ad149, e149, hx149_0, hx149_1, hx149_2, hx149_3, hx149_4, hx149_5⟩ := at_T100 HR148.out x19_1 p149 q149
                            cases e149
                            replace hx149_0 := (HB.out.cell (World.block_lt_of_cell? w _ hx149_0)).trans hx149_0
                            replace hx149_1 := (HB.out.cell (World.block_lt_of_cell? w _ hx149_1)).trans hx149_1
                            replace hx149_2 := (HB.out.cell (World.block_lt_of_cell? w _ hx149_2)).trans hx149_2
                            replace hx149_3 := (HB.out.cell (World.block_lt_of_cell? w _ hx149_3)).trans hx149_3
                            replace hx149_4 := (HB.out.cell (World.block_lt_of_cell? w _ hx149_4)).trans hx149_4
                            replace hx149_5 := (HB.out.cell (World.block_lt_of_cell? w _ hx149_5)).trans hx149_5
                            replace p149 := eq_true p149
                            replace q149 := eq_true q149
                            try go_wp2_with (first | ((with_reducible refine gate_dst (N := 7) rfl ?_); refine box_event ?hg (N := 7) ?hd (cs := #[.int .i64 0, .int .i64 0, .int .i64 0, .string (⟨#[]⟩ : ByteArray), .string (⟨#[]⟩ : ByteArray), .string (⟨#[]⟩ : ByteArray)]) (t := 100) ?hr ?_; (case hd => rfl); (case hg => rfl); (case hr => first | (go_simp; done) | (go_simp; rfl)); intro gb150 hg w23 hbox hb; have n0_ := Aside0.mk (blk_below (g := gb142) (o := .cells #[.int .i64 0, .int .i64 0] 29 (0, 0)) (by (with_reducible repeat (first | refine blk_drewN ?_ _ | refine blk_drew ?_ | refine blk_alloc ?_ _)); exact BK142.out) hb); have n1_ := Aside0.mk (blk_below (g := gb144) (o := .cells #[.int .i64 ((rd_T100 l0 a1).f2), .int .i64 x145001_1] 29 (0, 0)) (by (with_reducible repeat (first | refine blk_drewN ?_ _ | refine blk_drew ?_ | refine blk_alloc ?_ _)); exact BK144.out) hb); have n2_ := Aside0.mk (below_step (by repeat (first | (with_reducible first | exact HB.out | apply below_alloc | apply pw_below_drewN | apply below_drew1 | refine below_set ?_ GE142.out | refine below_set ?_ GE144.out) | exact HB.out)) hb); have n3_ := Aside0.mk (hbox); have n4_ := Aside0.mk ((by rw [hg]; exact (below_size (by repeat (first | (with_reducible first | exact HB.out | apply below_alloc | apply pw_below_drewN | apply below_drew1 | refine below_set ?_ GE142.out | refine below_set ?_ GE144.out) | exact HB.out))) : w.heap.size ≤ gb150)); have n5_ := Aside0.mk ((by rw [hg]; exact (below_size (by repeat (first | (with_reducible first | exact HB.out | apply below_alloc | apply pw_below_drewN | apply below_drew1 | refine below_set ?_ GE142.out | refine below_set ?_ GE144.out) | exact HB.out))) : w.heap.size ≤ gb150)); have n6_ := Aside0.mk ((by rw [hg]; exact Nat.ne_of_lt (blk_lt (g := gb142) (o := .cells #[.int .i64 0, .int .i64 0] 29 (0, 0)) (by (with_reducible repeat (first | refine blk_drewN ?_ _ | refine blk_drew ?_ | refine blk_alloc ?_ _)); exact BK142.out)) : gb142 ≠ gb150)); have n7_ := Aside0.mk ((by rw [hg]; exact Nat.ne_of_gt (blk_lt (g := gb142) (o := .cells #[.int .i64 0, .int .i64 0] 29 (0, 0)) (by (with_reducible repeat (first | refine blk_drewN ?_ _ | refine blk_drew ?_ | refine blk_alloc ?_ _)); exact BK142.out)) : gb150 ≠ gb142)); have n8_ := Aside0.mk ((by rw [hg]; exact Nat.ne_of_lt (blk_lt (g := gb144) (o := .cells #[.int .i64 ((rd_T100 l0 a1).f2), .int .i64 x145001_1] 29 (0, 0)) (by (with_reducible repeat (first | refine blk_drewN ?_ _ | refine blk_drew ?_ | refine blk_alloc ?_ _)); exact BK144.out)) : gb144 ≠ gb150)); have n9_ := Aside0.mk ((by rw [hg]; exact Nat.ne_of_gt (blk_lt (g := gb144) (o := .cells #[.int .i64 ((rd_T100 l0 a1).f2), .int .i64 x145001_1] 29 (0, 0)) (by (with_reducible repeat (first | refine blk_drewN ?_ _ | refine blk_drew ?_ | refine blk_alloc ?_ _)); exact BK144.out)) : gb150 ≠ gb144)); clear BK142; clear BK144; clear HB; have BK142 := n0_; have BK144 := n1_; have HB := n2_; have BK150 := n3_; have GW150 := n4_; have GE150 := n5_; have NB142_150 := n6_; have NB150_142 := n7_; have NB144_150 := n8_; have NB150_144 := n9_; clear n0_ n1_ n2_ n3_ n4_ n5_ n6_ n7_ n8_ n9_; clear hb hbox hg; have hnb24 := NB150_142.out; have hnc24 := NB142_150.out; have hnb25 := NB150_144.out; have hnc25 := NB144_150.out; have hcz26_0 : w23.cell? ⟨gb150, 0, none⟩ = some (.int .i64 0) := (blk_cell BK150.out 0).trans rfl; have hcz26_1 : w23.cell? ⟨gb150, 1, none⟩ = some (.int .i64 0) := (blk_cell BK150.out 1).trans rfl; have hcz26_2 : w23.cell? ⟨gb150, 2, none⟩ = some (.int .i64 0) := (blk_cell BK150.out 2).trans rfl; have hcz26_3 : w23.cell? ⟨gb150, 3, none⟩ = some (.string (⟨#[]⟩ : ByteArray)) := (blk_cell BK150.out 3).trans rfl; have hcz26_4 : w23.cell? ⟨gb150, 4, none⟩ = some (.string (⟨#[]⟩ : ByteArray)) := (blk_cell BK150.out 4).trans rfl; have hcz26_5 : w23.cell? ⟨gb150, 5, none⟩ = some (.string (⟨#[]⟩ : ByteArray)) := (blk_cell BK150.out 5).trans rfl; have hfz26_0 := blk_frozen BK150.out 0; have hfz26_1 := blk_frozen BK150.out 1; have hfz26_2 := blk_frozen BK150.out 2; have hfz26_3 := blk_frozen BK150.out 3; have hfz26_4 := blk_frozen BK150.out 4; have hfz26_5 := blk_frozen BK150.out 5))
                            have n0_ : Aside0 (((((((w23.setCell ⟨gb150, 0, none⟩ (.int .i64 ((rd_T100 y145 x19_1).f0))).setCell ⟨gb150, 1, none⟩ (.int .i64 ((rd_T100 y145 x19_1).f1))).setCell ⟨gb150, 2, none⟩ (.int .i64 ((rd_T100 y145 x19_1).f2))).setCell ⟨gb150, 3, none⟩ (.string ((rd_T100 y145 x19_1).f3))).setCell ⟨gb150, 4, none⟩ (.string ((rd_T100 y145 x19_1).f4))).setCell ⟨gb150, 5, none⟩ (.string ((rd_T100 y145 x19_1).f5))).heap[gb142]? = some (.cells #[.int .i64 0, .int .i64 0] 29 (0, 0))) := ⟨by (with_reducible repeat (first | refine blk_drewN ?_ _ | refine blk_drew ?_ | refine blk_alloc ?_ _)); refine blk_far ?_ NB142_150.out _; (with_reducible repeat (first | refine blk_drewN ?_ _ | refine blk_drew ?_ | refine blk_alloc ?_ _)); refine blk_far ?_ NB142_150.out _; (with_reducible repeat (first | refine blk_drewN ?_ _ | refine blk_drew ?_ | refine blk_alloc ?_ _)); refine blk_far ?_ NB142_150.out _; (with_reducible repeat (first | refine blk_drewN ?_ _ | refine blk_drew ?_ | refine blk_alloc ?_ _)); refine blk_far ?_ NB142_150.out _; (with_reducible repeat (first | refine blk_drewN ?_ _ | refine blk_drew ?_ | refine blk_alloc ?_ _)); refine blk_far ?_ NB142_150.out _; (with_reducible repeat (first | refine blk_drewN ?_ _ | refine blk_drew ?_ | refine blk_alloc ?_ _)); refine blk_far ?_ NB142_150.out _; (with_reducible repeat (first | refine blk_drewN ?_ _ | refine blk_drew ?_ | refine blk_alloc ?_ _)); exact BK142.out⟩
                            have n1_ : Aside0 (((((((w23.setCell ⟨gb150, 0, none⟩ (.int .i64 ((rd_T100 y145 x19_1).f0))).setCell ⟨gb150, 1, none⟩ (.int .i64 ((rd_T100 y145 x19_1).f1))).setCell ⟨gb150, 2, none⟩ (.int .i64 ((rd_T100 y145 x19_1).f2))).setCell ⟨gb150, 3, none⟩ (.string ((rd_T100 y145 x19_1).f3))).setCell ⟨gb150, 4, none⟩ (.string ((rd_T100 y145 x19_1).f4))).setCell ⟨gb150, 5, none⟩ (.string ((rd_T100 y145 x19_1).f5))).heap[gb144]? = some (.cells #[.int .i64 ((rd_T100 l0 a1).f2), .int .i64 x145001_1] 29 (0, 0))) := ⟨by (with_reducible repeat (first | refine blk_drewN ?_ _ | refine blk_drew ?_ | refine blk_alloc ?_ _)); refine blk_far ?_ NB144_150.out _; (with_reducible repeat (first | refine blk_drewN ?_ _ | refine blk_drew ?_ | refine blk_alloc ?_ _)); refine blk_far ?_ NB144_150.out _; (with_reducible repeat (first | refine blk_drewN ?_ _ | refine blk_drew ?_ | refine blk_alloc ?_ _)); refine blk_far ?_ NB144_150.out _; (with_reducible repeat (first | refine blk_drewN ?_ _ | refine blk_drew ?_ | refine blk_alloc ?_ _)); refine blk_far ?_ NB144_150.out _; (with_reducible repeat (first | refine blk_drewN ?_ _ | refine blk_drew ?_ | refine blk_alloc ?_ _)); refine blk_far ?_ NB144_150.out _; (with_reducible repeat (first | refine blk_drewN ?_ _ | refine blk_drew ?_ | refine blk_alloc ?_ _)); refine blk_far ?_ NB144_150.out _; (with_reducible repeat (first | refine blk_drewN ?_ _ | refine blk_drew ?_ | refine blk_alloc ?_ _)); exact BK144.out⟩
                            have n2_ : Aside0 (((((((w23.setCell ⟨gb150, 0, none⟩ (.int .i64 ((rd_T100 y145 x19_1).f0))).setCell ⟨gb150, 1, none⟩ (.int .i64 ((rd_T100 y145 x19_1).f1))).setCell ⟨gb150, 2, none⟩ (.int .i64 ((rd_T100 y145 x19_1).f2))).setCell ⟨gb150, 3, none⟩ (.string ((rd_T100 y145 x19_1).f3))).setCell ⟨gb150, 4, none⟩ (.string ((rd_T100 y145 x19_1).f4))).setCell ⟨gb150, 5, none⟩ (.string ((rd_T100 y145 x19_1).f5))).heap[gb150]? = some (.cells #[.int .i64 ((rd_T100 y145 x19_1).f0), .int .i64 ((rd_T100 y145 x19_1).f1), .int .i64 ((rd_T100 y145 x19_1).f2), .string ((rd_T100 y145 x19_1).f3), .string ((rd_T100 y145 x19_1).f4), .string ((rd_T100 y145 x19_1).f5)] 100 (0, 0))) := ⟨by (with_reducible repeat (first | refine blk_drewN ?_ _ | refine blk_drew ?_ | refine blk_alloc ?_ _)); refine blk_put (cs := #[.int .i64 ((rd_T100 y145 x19_1).f0), .int .i64 ((rd_T100 y145 x19_1).f1), .int .i64 ((rd_T100 y145 x19_1).f2), .string ((rd_T100 y145 x19_1).f3), .string ((rd_T100 y145 x19_1).f4), .string (⟨#[]⟩ : ByteArray)]) ?_ 5 _ rfl; (with_reducible repeat (first | refine blk_drewN ?_ _ | refine blk_drew ?_ | refine blk_alloc ?_ _)); refine blk_put (cs := #[.int .i64 ((rd_T100 y145 x19_1).f0), .int .i64 ((rd_T100 y145 x19_1).f1), .int .i64 ((rd_T100 y145 x19_1).f2), .string ((rd_T100 y145 x19_1).f3), .string (⟨#[]⟩ : ByteArray), .string (⟨#[]⟩ : ByteArray)]) ?_ 4 _ rfl; (with_reducible repeat (first | refine blk_drewN ?_ _ | refine blk_drew ?_ | refine blk_alloc ?_ _)); refine blk_put (cs := #[.int .i64 ((rd_T100 y145 x19_1).f0), .int .i64 ((rd_T100 y145 x19_1).f1), .int .i64 ((rd_T100 y145 x19_1).f2), .string (⟨#[]⟩ : ByteArray), .string (⟨#[]⟩ : ByteArray), .string (⟨#[]⟩ : ByteArray)]) ?_ 3 _ rfl; (with_reducible repeat (first | refine blk_drewN ?_ _ | refine blk_drew ?_ | refine blk_alloc ?_ _)); refine blk_put (cs := #[.int .i64 ((rd_T100 y145 x19_1).f0), .int .i64 ((rd_T100 y145 x19_1).f1), .int .i64 0, .string (⟨#[]⟩ : ByteArray), .string (⟨#[]⟩ : ByteArray), .string (⟨#[]⟩ : ByteArray)]) ?_ 2 _ rfl; (with_reducible repeat (first | refine blk_drewN ?_ _ | refine blk_drew ?_ | refine blk_alloc ?_ _)); refine blk_put (cs := #[.int .i64 ((rd_T100 y145 x19_1).f0), .int .i64 0, .int .i64 0, .string (⟨#[]⟩ : ByteArray), .string (⟨#[]⟩ : ByteArray), .string (⟨#[]⟩ : ByteArray)]) ?_ 1 _ rfl; (with_reducible repeat (first | refine blk_drewN ?_ _ | refine blk_drew ?_ | refine blk_alloc ?_ _)); refine blk_put (cs := #[.int .i64 0, .int .i64 0, .int .i64 0, .string (⟨#[]⟩ : ByteArray), .string (⟨#[]⟩ : ByteArray), .string (⟨#[]⟩ : ByteArray)]) ?_ 0 _ rfl; (with_reducible repeat (first | refine blk_drewN ?_ _ | refine blk_drew ?_ | refine blk_alloc ?_ _)); exact BK150.out⟩
                            have n3_ : Aside0 (Below w.heap.size w ((((((w23.setCell ⟨gb150, 0, none⟩ (.int .i64 ((rd_T100 y145 x19_1).f0))).setCell ⟨gb150, 1, none⟩ (.int .i64 ((rd_T100 y145 x19_1).f1))).setCell ⟨gb150, 2, none⟩ (.int .i64 ((rd_T100 y145 x19_1).f2))).setCell ⟨gb150, 3, none⟩ (.string ((rd_T100 y145 x19_1).f3))).setCell ⟨gb150, 4, none⟩ (.string ((rd_T100 y145 x19_1).f4))).setCell ⟨gb150, 5, none⟩ (.string ((rd_T100 y145 x19_1).f5)))) := ⟨by repeat (first | (with_reducible first | exact HB.out | apply below_alloc | apply pw_below_drewN | apply below_drew1 | refine below_set ?_ GE142.out | refine below_set ?_ GE144.out | refine below_set ?_ GE150.out) | exact HB.out)⟩
                            (try clear BK142)
                            (try clear BK144)
                            (try clear BK150)
                            (try clear HB)
                            generalize ((((((w23.setCell ⟨gb150, 0, none⟩ (.int .i64 ((rd_T100 y145 x19_1).f0))).setCell ⟨gb150, 1, none⟩ (.int .i64 ((rd_T100 y145 x19_1).f1))).setCell ⟨gb150, 2, none⟩ (.int .i64 ((rd_T100 y145 x19_1).f2))).setCell ⟨gb150, 3, none⟩ (.string ((rd_T100 y145 x19_1).f3))).setCell ⟨gb150, 4, none⟩ (.string ((rd_T100 y145 x19_1).f4))).setCell ⟨gb150, 5, none⟩ (.string ((rd_T100 y145 x19_1).f5))) = w27 at n0_ n1_ n2_ n3_ ⊢
                            have BK142 := n0_
                            have BK144 := n1_
                            have BK150 := n2_
                            have HB := n3_
                            clear n0_ n1_ n2_ n3_
                            have n0_ := Aside0.mk (blk_drew BK142.out)
                            have n1_ := Aside0.mk (blk_drew BK144.out)
                            have n2_ := Aside0.mk (blk_drew BK150.out)
                            have n3_ := Aside0.mk (below_drew1 HB.out)
                            clear BK142
                            clear BK144
                            clear BK150
                            clear HB
                            have BK142 := n0_
                            have BK144 := n1_
                            have BK150 := n2_
                            have HB := n3_
                            clear n0_ n1_ n2_ n3_
                            have p154 : 0 ≤ (a1 : Int) := of_decide_eq_true (by first | (with_reducible assumption) | assumption)
                            have q154 : a1 < (l0.length : Int) := of_decide_eq_true (by first | (with_reducible assumption) | assumption)
                            obtain ⟨ad154, e154, hx154_0, hx154_1, hx154_2, hx154_3, hx154_4, hx154_5⟩ := at_T100 HR0.out a1 p154 q154
                            have hw154_5 := hx154_5
                            have hw154_4 := hx154_4
                            have hw154_3 := hx154_3
                            have hw154_2 := hx154_2
                            have hw154_1 := hx154_1
                            have hw154_0 := hx154_0
                            obtain rfl : ad143 = ad154 := (by injection e154)
                            replace hx154_0 := (HB.out.cell (World.block_lt_of_cell? w _ hx154_0)).trans hx154_0
                            replace hx154_1 := (HB.out.cell (World.block_lt_of_cell? w _ hx154_1)).trans hx154_1
                            replace hx154_2 := (HB.out.cell (World.block_lt_of_cell? w _ hx154_2)).trans hx154_2
                            replace hx154_3 := (HB.out.cell (World.block_lt_of_cell? w _ hx154_3)).trans hx154_3
                            replace hx154_4 := (HB.out.cell (World.block_lt_of_cell? w _ hx154_4)).trans hx154_4
                            replace hx154_5 := (HB.out.cell (World.block_lt_of_cell? w _ hx154_5)).trans hx154_5
                            replace p154 := eq_true p154
                            replace q154 := eq_true q154
                            refine start_ (n := 8) (S := fun w' => w'.cell? ⟨gb150, 0, none⟩ = some (.int .i64 ((rd_T100 y145 x19_1).f0)) ∧ w'.cell? ⟨gb150, 1, none⟩ = some (.int .i64 ((rd_T100 y145 x19_1).f1)) ∧ w'.cell? ⟨gb150, 2, none⟩ = some (.int .i64 ((rd_T100 y145 x19_1).f2)) ∧ w'.cell? ⟨gb150, 3, none⟩ = some (.string ((rd_T100 y145 x19_1).f3)) ∧ w'.cell? ⟨gb150, 4, none⟩ = some (.string ((rd_T100 y145 x19_1).f4)) ∧ w'.cell? ⟨gb150, 5, none⟩ = some (.string ((rd_T100 y145 x19_1).f5)) ∧ w'.cell? (ad143.add ((a1).toNat * 6)) = some (.int .i64 ((rd_T100 l0 a1).f0)) ∧ w'.cell? ⟨(ad143.add ((a1).toNat * 6)).block, (ad143.add ((a1).toNat * 6)).off + 1, none⟩ = some (.int .i64 ((rd_T100 l0 a1).f1)) ∧ w'.cell? ⟨(ad143.add ((a1).toNat * 6)).block, (ad143.add ((a1).toNat * 6)).off + 2, none⟩ = some (.int .i64 ((rd_T100 l0 a1).f2)) ∧ w'.cell? ⟨(ad143.add ((a1).toNat * 6)).block, (ad143.add ((a1).toNat * 6)).off + 3, none⟩ = some (.string ((rd_T100 l0 a1).f3)) ∧ w'.cell? ⟨(ad143.add ((a1).toNat * 6)).block, (ad143.add ((a1).toNat * 6)).off + 4, none⟩ = some (.string ((rd_T100 l0 a1).f4)) ∧ w'.cell? ⟨(ad143.add ((a1).toNat * 6)).block, (ad143.add ((a1).toNat * 6)).off + 5, none⟩ = some (.string ((rd_T100 l0 a1).f5))) (ds := []) #[false, false, false, false, false, false, false, false] (by kernel_rfl) rfl rfl ⟨(blk_cell BK150.out 0).trans rfl, (blk_cell BK150.out 1).trans rfl, (blk_cell BK150.out 2).trans rfl, (blk_cell BK150.out 3).trans rfl, (blk_cell BK150.out 4).trans rfl, (blk_cell BK150.out 5).trans rfl, ((HB.out.cell (World.block_lt_of_cell? w _ hw154_0)).trans hw154_0), ((HB.out.cell (World.block_lt_of_cell? w _ hw154_1)).trans hw154_1), ((HB.out.cell (World.block_lt_of_cell? w _ hw154_2)).trans hw154_2), ((HB.out.cell (World.block_lt_of_cell? w _ hw154_3)).trans hw154_3), ((HB.out.cell (World.block_lt_of_cell? w _ hw154_4)).trans hw154_4), ((HB.out.cell (World.block_lt_of_cell? w _ hw154_5)).trans hw154_5)⟩ (fun hHeld => ?_); refine with_tabW deployment_effect.tab5 deployment_effect.bits5 (fun HT_ HW_ => ?_)
                            generalize w27.drew = w28 at BK142 BK144 BK150 HB hx154_0 hx154_1 hx154_2 hx154_3 hx154_4 hx154_5 hHeld ⊢
                            refine pu_ 2 (some 25) (bq 8 4) HT_ rfl rfl ?_
                            refine pu_ 3 (some 26) (bq 8 12) HT_ rfl rfl ?_
                            refine pu_ 4 (some 27) (bq 8 28) HT_ rfl rfl ?_
                            refine take_ (i := 0) (N := some 23) (v := ?_) (a' := ?_) #[true, false, true, true, true, false, false, false] rfl rfl (take_ofW HT_.out HW_.out (by kernel_rfl)) (fun _ _ _ h => h) (Or.inl ⟨by rfl, ?_⟩) hHeld ?_ ?_
                            rotate_left
                            · rintro w' ⟨s0, s1, s2, s3, s4, s5, s6, s7, s8, s9, s10, s11⟩
                              go_simp
                              with_reducible rfl
                            rotate_left
                            · simp only [Act.put, List.setIfInBounds_toArray, List.set_cons_zero, List.set_cons_succ, i64_w, i32_w]
                              rfl
                            refine take_ (i := 5) (N := some 28) (v := ?_) (a' := ?_) #[true, false, true, true, true, true, false, false] rfl rfl (take_ofW HT_.out HW_.out (by kernel_rfl)) (fun _ _ _ h => h) (Or.inl ⟨by rfl, ?_⟩) hHeld ?_ ?_
                            rotate_left
                            · rintro w' ⟨s0, s1, s2, s3, s4, s5, s6, s7, s8, s9, s10, s11⟩
                              go_simp
                              with_reducible rfl
                            rotate_left
                            · simp only [Act.put, List.setIfInBounds_toArray, List.set_cons_zero, List.set_cons_succ, i64_w, i32_w]
                              rfl
                            refine one_ (i := 1) (N := some 24) #[true, true, true, true, true, true, false, false] rfl rfl (one_of HT_.out (by kernel_rfl)) (by decide) (fun K hK => ?_)
                            refine goes_ Try.func87 (by kernel_rfl) rfl #[.agg #[.int .i64 ((rd_T100 y145 x19_1).f0), .int .i64 ((rd_T100 y145 x19_1).f1), .int .i64 ((rd_T100 y145 x19_1).f2), .string ((rd_T100 y145 x19_1).f3), .string ((rd_T100 y145 x19_1).f4), .string ((rd_T100 y145 x19_1).f5)]] (by rfl) rfl rfl (by (try simp only [List.map_toArray, List.map_cons, List.map_nil]); first | done | rfl | (simp only [List.length_drop, List.length_take]; rfl)) ?_
                            with_reducible refine (deployment_subjectOf.calls ((rd_T100 y145 x19_1).f0) ((rd_T100 y145 x19_1).f1) ((rd_T100 y145 x19_1).f2) ((rd_T100 y145 x19_1).f3) ((rd_T100 y145 x19_1).f4) ((rd_T100 y145 x19_1).f5) t151 t152 t153 _ A17.out).mono ?_
                            rintro e w29 ⟨rfl, hb⟩
                            refine ⟨_, rfl, ?_⟩
                            have n0_ := Aside0.mk (blk_below (g := gb142) (o := .cells #[.int .i64 0, .int .i64 0] 29 (0, 0)) (by (with_reducible repeat (first | refine blk_drewN ?_ _ | refine blk_drew ?_ | refine blk_alloc ?_ _)); exact BK142.out) hb)
                            have n1_ := Aside0.mk (blk_below (g := gb144) (o := .cells #[.int .i64 ((rd_T100 l0 a1).f2), .int .i64 x145001_1] 29 (0, 0)) (by (with_reducible repeat (first | refine blk_drewN ?_ _ | refine blk_drew ?_ | refine blk_alloc ?_ _)); exact BK144.out) hb)
                            have n2_ := Aside0.mk (blk_below (g := gb150) (o := .cells #[.int .i64 ((rd_T100 y145 x19_1).f0), .int .i64 ((rd_T100 y145 x19_1).f1), .int .i64 ((rd_T100 y145 x19_1).f2), .string ((rd_T100 y145 x19_1).f3), .string ((rd_T100 y145 x19_1).f4), .string ((rd_T100 y145 x19_1).f5)] 100 (0, 0)) (by (with_reducible repeat (first | refine blk_drewN ?_ _ | refine blk_drew ?_ | refine blk_alloc ?_ _)); exact BK150.out) hb)
                            have n3_ := Aside0.mk (below_step (by repeat (first | (with_reducible first | exact HB.out | apply below_alloc | apply pw_below_drewN | apply below_drew1 | refine below_set ?_ GE142.out | refine below_set ?_ GE144.out | refine below_set ?_ GE150.out) | exact HB.out)) hb)
                            clear BK142
                            clear BK144
                            clear BK150
                            clear HB
                            have BK142 := n0_
                            have BK144 := n1_
                            have BK150 := n2_
                            have HB := n3_
                            clear n0_ n1_ n2_ n3_
                            (try clear hb)
                            (try clear hb2)
                            (try clear hk)
                            (try clear hi)
                            refine hK.out _ _ ⟨(blk_cell BK150.out 0).trans rfl, (blk_cell BK150.out 1).trans rfl, (blk_cell BK150.out 2).trans rfl, (blk_cell BK150.out 3).trans rfl, (blk_cell BK150.out 4).trans rfl, (blk_cell BK150.out 5).trans rfl, ((HB.out.cell (World.block_lt_of_cell? w _ hw154_0)).trans hw154_0), ((HB.out.cell (World.block_lt_of_cell? w _ hw154_1)).trans hw154_1), ((HB.out.cell (World.block_lt_of_cell? w _ hw154_2)).trans hw154_2), ((HB.out.cell (World.block_lt_of_cell? w _ hw154_3)).trans hw154_3), ((HB.out.cell (World.block_lt_of_cell? w _ hw154_4)).trans hw154_4), ((HB.out.cell (World.block_lt_of_cell? w _ hw154_5)).trans hw154_5)⟩ (fun hHeld => ?_)
                            clear hK K
                            refine norm_ (a' := ?_) ?_ ?_
                            rotate_left
                            · show Act.put _ (some 24) _ = _
                              simp only [Act.put, List.setIfInBounds_toArray, List.set_cons_zero, List.set_cons_succ, i64_w, i32_w]
                              rfl
                            refine one_ (i := 6) (N := some 29) #[true, true, true, true, true, true, true, false] rfl rfl (one_of HT_.out (by kernel_rfl)) (by decide) (fun K hK => ?_)
                            refine goes_ Try.func87 (by kernel_rfl) rfl #[.agg #[.int .i64 ((rd_T100 l0 a1).f0), .int .i64 ((rd_T100 l0 a1).f1), .int .i64 ((rd_T100 l0 a1).f2), .string ((rd_T100 l0 a1).f3), .string ((rd_T100 l0 a1).f4), .string ((rd_T100 l0 a1).f5)]] (by rfl) rfl rfl (by (try simp only [List.map_toArray, List.map_cons, List.map_nil]); first | done | rfl | (simp only [List.length_drop, List.length_take]; rfl)) ?_
                            with_reducible refine (deployment_subjectOf.calls ((rd_T100 l0 a1).f0) ((rd_T100 l0 a1).f1) ((rd_T100 l0 a1).f2) ((rd_T100 l0 a1).f3) ((rd_T100 l0 a1).f4) ((rd_T100 l0 a1).f5) t155 t156 t157 _ A20.out).mono ?_
                            rintro e w30 ⟨rfl, hb⟩
                            refine ⟨_, rfl, ?_⟩
                            have n0_ := Aside0.mk (blk_below (g := gb142) (o := .cells #[.int .i64 0, .int .i64 0] 29 (0, 0)) (by (with_reducible repeat (first | refine blk_drewN ?_ _ | refine blk_drew ?_ | refine blk_alloc ?_ _)); exact BK142.out) hb)
                            have n1_ := Aside0.mk (blk_below (g := gb144) (o := .cells #[.int .i64 ((rd_T100 l0 a1).f2), .int .i64 x145001_1] 29 (0, 0)) (by (with_reducible repeat (first | refine blk_drewN ?_ _ | refine blk_drew ?_ | refine blk_alloc ?_ _)); exact BK144.out) hb)
                            have n2_ := Aside0.mk (blk_below (g := gb150) (o := .cells #[.int .i64 ((rd_T100 y145 x19_1).f0), .int .i64 ((rd_T100 y145 x19_1).f1), .int .i64 ((rd_T100 y145 x19_1).f2), .string ((rd_T100 y145 x19_1).f3), .string ((rd_T100 y145 x19_1).f4), .string ((rd_T100 y145 x19_1).f5)] 100 (0, 0)) (by (with_reducible repeat (first | refine blk_drewN ?_ _ | refine blk_drew ?_ | refine blk_alloc ?_ _)); exact BK150.out) hb)
                            have n3_ := Aside0.mk (below_step (by repeat (first | (with_reducible first | exact HB.out | apply below_alloc | apply pw_below_drewN | apply below_drew1 | refine below_set ?_ GE142.out | refine below_set ?_ GE144.out | refine below_set ?_ GE150.out) | exact HB.out)) hb)
                            clear BK142
                            clear BK144
                            clear BK150
                            clear HB
                            have BK142 := n0_
                            have BK144 := n1_
                            have BK150 := n2_
                            have HB := n3_
                            clear n0_ n1_ n2_ n3_
                            (try clear hb)
                            (try clear hb2)
                            (try clear hk)
                            (try clear hi)
                            refine hK.out _ _ ⟨(blk_cell BK150.out 0).trans rfl, (blk_cell BK150.out 1).trans rfl, (blk_cell BK150.out 2).trans rfl, (blk_cell BK150.out 3).trans rfl, (blk_cell BK150.out 4).trans rfl, (blk_cell BK150.out 5).trans rfl, ((HB.out.cell (World.block_lt_of_cell? w _ hw154_0)).trans hw154_0), ((HB.out.cell (World.block_lt_of_cell? w _ hw154_1)).trans hw154_1), ((HB.out.cell (World.block_lt_of_cell? w _ hw154_2)).trans hw154_2), ((HB.out.cell (World.block_lt_of_cell? w _ hw154_3)).trans hw154_3), ((HB.out.cell (World.block_lt_of_cell? w _ hw154_4)).trans hw154_4), ((HB.out.cell (World.block_lt_of_cell? w _ hw154_5)).trans hw154_5)⟩ (fun hHeld => ?_)
                            clear hK K
                            refine norm_ (a' := ?_) ?_ ?_
                            rotate_left
                            · show Act.put _ (some 29) _ = _
                              simp only [Act.put, List.setIfInBounds_toArray, List.set_cons_zero, List.set_cons_succ, i64_w, i32_w]
                              rfl
                            refine pu_ 7 (some 30) (bq 8 255) HT_ rfl rfl ?_
                            refine done_ (done_of HT_.out (by kernel_rfl)) ?_
                            have hcz31_0 : w30.cell? ⟨gb150, 0, none⟩ = some (.int .i64 ((rd_T100 y145 x19_1).f0)) := (blk_cell BK150.out 0).trans rfl
                            have hcz31_1 : w30.cell? ⟨gb150, 1, none⟩ = some (.int .i64 ((rd_T100 y145 x19_1).f1)) := (blk_cell BK150.out 1).trans rfl
                            have hcz31_2 : w30.cell? ⟨gb150, 2, none⟩ = some (.int .i64 ((rd_T100 y145 x19_1).f2)) := (blk_cell BK150.out 2).trans rfl
                            have hcz31_3 : w30.cell? ⟨gb150, 3, none⟩ = some (.string ((rd_T100 y145 x19_1).f3)) := (blk_cell BK150.out 3).trans rfl
                            have hcz31_4 : w30.cell? ⟨gb150, 4, none⟩ = some (.string ((rd_T100 y145 x19_1).f4)) := (blk_cell BK150.out 4).trans rfl
                            have hcz31_5 : w30.cell? ⟨gb150, 5, none⟩ = some (.string ((rd_T100 y145 x19_1).f5)) := (blk_cell BK150.out 5).trans rfl
                            have hfz31_0 := blk_frozen BK150.out 0
                            have hfz31_1 := blk_frozen BK150.out 1
                            have hfz31_2 := blk_frozen BK150.out 2
                            have hfz31_3 := blk_frozen BK150.out 3
                            have hfz31_4 := blk_frozen BK150.out 4
                            have hfz31_5 := blk_frozen BK150.out 5
                            have hnb32 := NB144_142.out
                            have hnc32 := NB142_144.out
                            have hcz33_0 : w30.cell? ⟨gb144, 0, none⟩ = some (.int .i64 ((rd_T100 l0 a1).f2)) := (blk_cell BK144.out 0).trans rfl
                            have hcz33_1 : w30.cell? ⟨gb144, 1, none⟩ = some (.int .i64 x145001_1) := (blk_cell BK144.out 1).trans rfl
                            have hfz33_0 := blk_frozen BK144.out 0
                            have hfz33_1 := blk_frozen BK144.out 1
                            have hcz34_0 : w30.cell? ⟨gb142, 0, none⟩ = some (.int .i64 0) := (blk_cell BK142.out 0).trans rfl
                            have hcz34_1 : w30.cell? ⟨gb142, 1, none⟩ = some (.int .i64 0) := (blk_cell BK142.out 1).trans rfl
                            have hfz34_0 := blk_frozen BK142.out 0
                            have hfz34_1 := blk_frozen BK142.out 1
                            try go_wp2
                            refine bodyPost_ret (results_cell_row rfl _ _ gb142 29 #[.int .i64 0, .int .i64 0] (0, 0) _ rfl (by (with_reducible repeat (first | refine blk_drewN ?_ _ | refine blk_drew ?_ | refine blk_alloc ?_ _)); refine blk_put (cs := #[.int .i64 0, .int .i64 0]) ?_ 1 _ rfl; (with_reducible repeat (first | refine blk_drewN ?_ _ | refine blk_drew ?_ | refine blk_alloc ?_ _)); refine blk_put (cs := #[.int .i64 0, .int .i64 0]) ?_ 0 _ rfl; (with_reducible repeat (first | refine blk_drewN ?_ _ | refine blk_drew ?_ | refine blk_alloc ?_ _)); refine blk_far ?_ NB142_144.out _; (with_reducible repeat (first | refine blk_drewN ?_ _ | refine blk_drew ?_ | refine blk_alloc ?_ _)); exact BK142.out) Try.underlying29 rfl (by kernel_rfl)) rfl ?_
                            exact ⟨by first | rfl | (simp [errW_none, errW_some] <;> rfl) | (simp only [← hji5]; first | rfl | (simp [errW_none, errW_some] <;> rfl)) | (simp [*, errW_none, errW_some] <;> rfl), by repeat (first | (with_reducible first | exact HB.out | apply below_alloc | apply pw_below_drewN | apply below_drew1 | refine below_set ?_ GE142.out | refine below_set ?_ GE144.out | refine below_set ?_ GE150.out) | exact HB.out)⟩
                          · rw [if_neg c22] at H
                            have c22b0 : decide (((rd_T100 y145 x19_1).f2) ≤ ((rd_T100 l0 a1).f2)) = false := decide_eq_false c22
                            clear c22
                            simp only [Option.some.injEq, Prod.mk.injEq] at H
                            obtain ⟨rfl, rfl⟩ := H
                            have p149 : 0 ≤ (x19_1 : Int) := of_decide_eq_true (by first | (with_reducible assumption) | assumption)
                            have q149 : x19_1 < (y145.length : Int) := of_decide_eq_true (by first | (with_reducible assumption) | assumption)
                            obtain ⟨ad149, e149, hx149_0, hx149_1, hx149_2, hx149_3, hx149_4, hx149_5⟩ := at_T100 HR148.out x19_1 p149 q149
                            cases e149
                            replace hx149_0 := (HB.out.cell (World.block_lt_of_cell? w _ hx149_0)).trans hx149_0
                            replace hx149_1 := (HB.out.cell (World.block_lt_of_cell? w _ hx149_1)).trans hx149_1
                            replace hx149_2 := (HB.out.cell (World.block_lt_of_cell? w _ hx149_2)).trans hx149_2
                            replace hx149_3 := (HB.out.cell (World.block_lt_of_cell? w _ hx149_3)).trans hx149_3
                            replace hx149_4 := (HB.out.cell (World.block_lt_of_cell? w _ hx149_4)).trans hx149_4
                            replace hx149_5 := (HB.out.cell (World.block_lt_of_cell? w _ hx149_5)).trans hx149_5
                            replace p149 := eq_true p149
                            replace q149 := eq_true q149
                            try go_wp2_with (first | ((with_reducible refine gate_dst (N := 7) rfl ?_); refine box_event ?hg (N := 7) ?hd (cs := #[.int .i64 0, .int .i64 0, .int .i64 0, .string (⟨#[]⟩ : ByteArray), .string (⟨#[]⟩ : ByteArray), .string (⟨#[]⟩ : ByteArray)]) (t := 100) ?hr ?_; (case hd => rfl); (case hg => rfl); (case hr => first | (go_simp; done) | (go_simp; rfl)); intro gb150 hg w35 hbox hb; have n0_ := Aside0.mk (blk_below (g := gb142) (o := .cells #[.int .i64 0, .int .i64 0] 29 (0, 0)) (by (with_reducible repeat (first | refine blk_drewN ?_ _ | refine blk_drew ?_ | refine blk_alloc ?_ _)); exact BK142.out) hb); have n1_ := Aside0.mk (blk_below (g := gb144) (o := .cells #[.int .i64 ((rd_T100 l0 a1).f2), .int .i64 x145001_1] 29 (0, 0)) (by (with_reducible repeat (first | refine blk_drewN ?_ _ | refine blk_drew ?_ | refine blk_alloc ?_ _)); exact BK144.out) hb); have n2_ := Aside0.mk (below_step (by repeat (first | (with_reducible first | exact HB.out | apply below_alloc | apply pw_below_drewN | apply below_drew1 | refine below_set ?_ GE142.out | refine below_set ?_ GE144.out) | exact HB.out)) hb); have n3_ := Aside0.mk (hbox); have n4_ := Aside0.mk ((by rw [hg]; exact (below_size (by repeat (first | (with_reducible first | exact HB.out | apply below_alloc | apply pw_below_drewN | apply below_drew1 | refine below_set ?_ GE142.out | refine below_set ?_ GE144.out) | exact HB.out))) : w.heap.size ≤ gb150)); have n5_ := Aside0.mk ((by rw [hg]; exact (below_size (by repeat (first | (with_reducible first | exact HB.out | apply below_alloc | apply pw_below_drewN | apply below_drew1 | refine below_set ?_ GE142.out | refine below_set ?_ GE144.out) | exact HB.out))) : w.heap.size ≤ gb150)); have n6_ := Aside0.mk ((by rw [hg]; exact Nat.ne_of_lt (blk_lt (g := gb142) (o := .cells #[.int .i64 0, .int .i64 0] 29 (0, 0)) (by (with_reducible repeat (first | refine blk_drewN ?_ _ | refine blk_drew ?_ | refine blk_alloc ?_ _)); exact BK142.out)) : gb142 ≠ gb150)); have n7_ := Aside0.mk ((by rw [hg]; exact Nat.ne_of_gt (blk_lt (g := gb142) (o := .cells #[.int .i64 0, .int .i64 0] 29 (0, 0)) (by (with_reducible repeat (first | refine blk_drewN ?_ _ | refine blk_drew ?_ | refine blk_alloc ?_ _)); exact BK142.out)) : gb150 ≠ gb142)); have n8_ := Aside0.mk ((by rw [hg]; exact Nat.ne_of_lt (blk_lt (g := gb144) (o := .cells #[.int .i64 ((rd_T100 l0 a1).f2), .int .i64 x145001_1] 29 (0, 0)) (by (with_reducible repeat (first | refine blk_drewN ?_ _ | refine blk_drew ?_ | refine blk_alloc ?_ _)); exact BK144.out)) : gb144 ≠ gb150)); have n9_ := Aside0.mk ((by rw [hg]; exact Nat.ne_of_gt (blk_lt (g := gb144) (o := .cells #[.int .i64 ((rd_T100 l0 a1).f2), .int .i64 x145001_1] 29 (0, 0)) (by (with_reducible repeat (first | refine blk_drewN ?_ _ | refine blk_drew ?_ | refine blk_alloc ?_ _)); exact BK144.out)) : gb150 ≠ gb144)); clear BK142; clear BK144; clear HB; have BK142 := n0_; have BK144 := n1_; have HB := n2_; have BK150 := n3_; have GW150 := n4_; have GE150 := n5_; have NB142_150 := n6_; have NB150_142 := n7_; have NB144_150 := n8_; have NB150_144 := n9_; clear n0_ n1_ n2_ n3_ n4_ n5_ n6_ n7_ n8_ n9_; clear hb hbox hg; have hnb36 := NB150_142.out; have hnc36 := NB142_150.out; have hnb37 := NB150_144.out; have hnc37 := NB144_150.out; have hcz38_0 : w35.cell? ⟨gb150, 0, none⟩ = some (.int .i64 0) := (blk_cell BK150.out 0).trans rfl; have hcz38_1 : w35.cell? ⟨gb150, 1, none⟩ = some (.int .i64 0) := (blk_cell BK150.out 1).trans rfl; have hcz38_2 : w35.cell? ⟨gb150, 2, none⟩ = some (.int .i64 0) := (blk_cell BK150.out 2).trans rfl; have hcz38_3 : w35.cell? ⟨gb150, 3, none⟩ = some (.string (⟨#[]⟩ : ByteArray)) := (blk_cell BK150.out 3).trans rfl; have hcz38_4 : w35.cell? ⟨gb150, 4, none⟩ = some (.string (⟨#[]⟩ : ByteArray)) := (blk_cell BK150.out 4).trans rfl; have hcz38_5 : w35.cell? ⟨gb150, 5, none⟩ = some (.string (⟨#[]⟩ : ByteArray)) := (blk_cell BK150.out 5).trans rfl; have hfz38_0 := blk_frozen BK150.out 0; have hfz38_1 := blk_frozen BK150.out 1; have hfz38_2 := blk_frozen BK150.out 2; have hfz38_3 := blk_frozen BK150.out 3; have hfz38_4 := blk_frozen BK150.out 4; have hfz38_5 := blk_frozen BK150.out 5))
                            have n0_ : Aside0 (((((((w35.setCell ⟨gb150, 0, none⟩ (.int .i64 ((rd_T100 y145 x19_1).f0))).setCell ⟨gb150, 1, none⟩ (.int .i64 ((rd_T100 y145 x19_1).f1))).setCell ⟨gb150, 2, none⟩ (.int .i64 ((rd_T100 y145 x19_1).f2))).setCell ⟨gb150, 3, none⟩ (.string ((rd_T100 y145 x19_1).f3))).setCell ⟨gb150, 4, none⟩ (.string ((rd_T100 y145 x19_1).f4))).setCell ⟨gb150, 5, none⟩ (.string ((rd_T100 y145 x19_1).f5))).heap[gb142]? = some (.cells #[.int .i64 0, .int .i64 0] 29 (0, 0))) := ⟨by (with_reducible repeat (first | refine blk_drewN ?_ _ | refine blk_drew ?_ | refine blk_alloc ?_ _)); refine blk_far ?_ NB142_150.out _; (with_reducible repeat (first | refine blk_drewN ?_ _ | refine blk_drew ?_ | refine blk_alloc ?_ _)); refine blk_far ?_ NB142_150.out _; (with_reducible repeat (first | refine blk_drewN ?_ _ | refine blk_drew ?_ | refine blk_alloc ?_ _)); refine blk_far ?_ NB142_150.out _; (with_reducible repeat (first | refine blk_drewN ?_ _ | refine blk_drew ?_ | refine blk_alloc ?_ _)); refine blk_far ?_ NB142_150.out _; (with_reducible repeat (first | refine blk_drewN ?_ _ | refine blk_drew ?_ | refine blk_alloc ?_ _)); refine blk_far ?_ NB142_150.out _; (with_reducible repeat (first | refine blk_drewN ?_ _ | refine blk_drew ?_ | refine blk_alloc ?_ _)); refine blk_far ?_ NB142_150.out _; (with_reducible repeat (first | refine blk_drewN ?_ _ | refine blk_drew ?_ | refine blk_alloc ?_ _)); exact BK142.out⟩
                            have n1_ : Aside0 (((((((w35.setCell ⟨gb150, 0, none⟩ (.int .i64 ((rd_T100 y145 x19_1).f0))).setCell ⟨gb150, 1, none⟩ (.int .i64 ((rd_T100 y145 x19_1).f1))).setCell ⟨gb150, 2, none⟩ (.int .i64 ((rd_T100 y145 x19_1).f2))).setCell ⟨gb150, 3, none⟩ (.string ((rd_T100 y145 x19_1).f3))).setCell ⟨gb150, 4, none⟩ (.string ((rd_T100 y145 x19_1).f4))).setCell ⟨gb150, 5, none⟩ (.string ((rd_T100 y145 x19_1).f5))).heap[gb144]? = some (.cells #[.int .i64 ((rd_T100 l0 a1).f2), .int .i64 x145001_1] 29 (0, 0))) := ⟨by (with_reducible repeat (first | refine blk_drewN ?_ _ | refine blk_drew ?_ | refine blk_alloc ?_ _)); refine blk_far ?_ NB144_150.out _; (with_reducible repeat (first | refine blk_drewN ?_ _ | refine blk_drew ?_ | refine blk_alloc ?_ _)); refine blk_far ?_ NB144_150.out _; (with_reducible repeat (first | refine blk_drewN ?_ _ | refine blk_drew ?_ | refine blk_alloc ?_ _)); refine blk_far ?_ NB144_150.out _; (with_reducible repeat (first | refine blk_drewN ?_ _ | refine blk_drew ?_ | refine blk_alloc ?_ _)); refine blk_far ?_ NB144_150.out _; (with_reducible repeat (first | refine blk_drewN ?_ _ | refine blk_drew ?_ | refine blk_alloc ?_ _)); refine blk_far ?_ NB144_150.out _; (with_reducible repeat (first | refine blk_drewN ?_ _ | refine blk_drew ?_ | refine blk_alloc ?_ _)); refine blk_far ?_ NB144_150.out _; (with_reducible repeat (first | refine blk_drewN ?_ _ | refine blk_drew ?_ | refine blk_alloc ?_ _)); exact BK144.out⟩
                            have n2_ : Aside0 (((((((w35.setCell ⟨gb150, 0, none⟩ (.int .i64 ((rd_T100 y145 x19_1).f0))).setCell ⟨gb150, 1, none⟩ (.int .i64 ((rd_T100 y145 x19_1).f1))).setCell ⟨gb150, 2, none⟩ (.int .i64 ((rd_T100 y145 x19_1).f2))).setCell ⟨gb150, 3, none⟩ (.string ((rd_T100 y145 x19_1).f3))).setCell ⟨gb150, 4, none⟩ (.string ((rd_T100 y145 x19_1).f4))).setCell ⟨gb150, 5, none⟩ (.string ((rd_T100 y145 x19_1).f5))).heap[gb150]? = some (.cells #[.int .i64 ((rd_T100 y145 x19_1).f0), .int .i64 ((rd_T100 y145 x19_1).f1), .int .i64 ((rd_T100 y145 x19_1).f2), .string ((rd_T100 y145 x19_1).f3), .string ((rd_T100 y145 x19_1).f4), .string ((rd_T100 y145 x19_1).f5)] 100 (0, 0))) := ⟨by (with_reducible repeat (first | refine blk_drewN ?_ _ | refine blk_drew ?_ | refine blk_alloc ?_ _)); refine blk_put (cs := #[.int .i64 ((rd_T100 y145 x19_1).f0), .int .i64 ((rd_T100 y145 x19_1).f1), .int .i64 ((rd_T100 y145 x19_1).f2), .string ((rd_T100 y145 x19_1).f3), .string ((rd_T100 y145 x19_1).f4), .string (⟨#[]⟩ : ByteArray)]) ?_ 5 _ rfl; (with_reducible repeat (first | refine blk_drewN ?_ _ | refine blk_drew ?_ | refine blk_alloc ?_ _)); refine blk_put (cs := #[.int .i64 ((rd_T100 y145 x19_1).f0), .int .i64 ((rd_T100 y145 x19_1).f1), .int .i64 ((rd_T100 y145 x19_1).f2), .string ((rd_T100 y145 x19_1).f3), .string (⟨#[]⟩ : ByteArray), .string (⟨#[]⟩ : ByteArray)]) ?_ 4 _ rfl; (with_reducible repeat (first | refine blk_drewN ?_ _ | refine blk_drew ?_ | refine blk_alloc ?_ _)); refine blk_put (cs := #[.int .i64 ((rd_T100 y145 x19_1).f0), .int .i64 ((rd_T100 y145 x19_1).f1), .int .i64 ((rd_T100 y145 x19_1).f2), .string (⟨#[]⟩ : ByteArray), .string (⟨#[]⟩ : ByteArray), .string (⟨#[]⟩ : ByteArray)]) ?_ 3 _ rfl; (with_reducible repeat (first | refine blk_drewN ?_ _ | refine blk_drew ?_ | refine blk_alloc ?_ _)); refine blk_put (cs := #[.int .i64 ((rd_T100 y145 x19_1).f0), .int .i64 ((rd_T100 y145 x19_1).f1), .int .i64 0, .string (⟨#[]⟩ : ByteArray), .string (⟨#[]⟩ : ByteArray), .string (⟨#[]⟩ : ByteArray)]) ?_ 2 _ rfl; (with_reducible repeat (first | refine blk_drewN ?_ _ | refine blk_drew ?_ | refine blk_alloc ?_ _)); refine blk_put (cs := #[.int .i64 ((rd_T100 y145 x19_1).f0), .int .i64 0, .int .i64 0, .string (⟨#[]⟩ : ByteArray), .string (⟨#[]⟩ : ByteArray), .string (⟨#[]⟩ : ByteArray)]) ?_ 1 _ rfl; (with_reducible repeat (first | refine blk_drewN ?_ _ | refine blk_drew ?_ | refine blk_alloc ?_ _)); refine blk_put (cs := #[.int .i64 0, .int .i64 0, .int .i64 0, .string (⟨#[]⟩ : ByteArray), .string (⟨#[]⟩ : ByteArray), .string (⟨#[]⟩ : ByteArray)]) ?_ 0 _ rfl; (with_reducible repeat (first | refine blk_drewN ?_ _ | refine blk_drew ?_ | refine blk_alloc ?_ _)); exact BK150.out⟩
                            have n3_ : Aside0 (Below w.heap.size w ((((((w35.setCell ⟨gb150, 0, none⟩ (.int .i64 ((rd_T100 y145 x19_1).f0))).setCell ⟨gb150, 1, none⟩ (.int .i64 ((rd_T100 y145 x19_1).f1))).setCell ⟨gb150, 2, none⟩ (.int .i64 ((rd_T100 y145 x19_1).f2))).setCell ⟨gb150, 3, none⟩ (.string ((rd_T100 y145 x19_1).f3))).setCell ⟨gb150, 4, none⟩ (.string ((rd_T100 y145 x19_1).f4))).setCell ⟨gb150, 5, none⟩ (.string ((rd_T100 y145 x19_1).f5)))) := ⟨by repeat (first | (with_reducible first | exact HB.out | apply below_alloc | apply pw_below_drewN | apply below_drew1 | refine below_set ?_ GE142.out | refine below_set ?_ GE144.out | refine below_set ?_ GE150.out) | exact HB.out)⟩
                            (try clear BK142)
                            (try clear BK144)
                            (try clear BK150)
                            (try clear HB)
                            generalize ((((((w35.setCell ⟨gb150, 0, none⟩ (.int .i64 ((rd_T100 y145 x19_1).f0))).setCell ⟨gb150, 1, none⟩ (.int .i64 ((rd_T100 y145 x19_1).f1))).setCell ⟨gb150, 2, none⟩ (.int .i64 ((rd_T100 y145 x19_1).f2))).setCell ⟨gb150, 3, none⟩ (.string ((rd_T100 y145 x19_1).f3))).setCell ⟨gb150, 4, none⟩ (.string ((rd_T100 y145 x19_1).f4))).setCell ⟨gb150, 5, none⟩ (.string ((rd_T100 y145 x19_1).f5))) = w39 at n0_ n1_ n2_ n3_ ⊢
                            have BK142 := n0_
                            have BK144 := n1_
                            have BK150 := n2_
                            have HB := n3_
                            clear n0_ n1_ n2_ n3_
                            have n0_ := Aside0.mk (blk_drew BK142.out)
                            have n1_ := Aside0.mk (blk_drew BK144.out)
                            have n2_ := Aside0.mk (blk_drew BK150.out)
                            have n3_ := Aside0.mk (below_drew1 HB.out)
                            clear BK142
                            clear BK144
                            clear BK150
                            clear HB
                            have BK142 := n0_
                            have BK144 := n1_
                            have BK150 := n2_
                            have HB := n3_
                            clear n0_ n1_ n2_ n3_
                            have p154 : 0 ≤ (a1 : Int) := of_decide_eq_true (by first | (with_reducible assumption) | assumption)
                            have q154 : a1 < (l0.length : Int) := of_decide_eq_true (by first | (with_reducible assumption) | assumption)
                            obtain ⟨ad154, e154, hx154_0, hx154_1, hx154_2, hx154_3, hx154_4, hx154_5⟩ := at_T100 HR0.out a1 p154 q154
                            have hw154_5 := hx154_5
                            have hw154_4 := hx154_4
                            have hw154_3 := hx154_3
                            have hw154_2 := hx154_2
                            have hw154_1 := hx154_1
                            have hw154_0 := hx154_0
                            obtain rfl : ad143 = ad154 := (by injection e154)
                            replace hx154_0 := (HB.out.cell (World.block_lt_of_cell? w _ hx154_0)).trans hx154_0
                            replace hx154_1 := (HB.out.cell (World.block_lt_of_cell? w _ hx154_1)).trans hx154_1
                            replace hx154_2 := (HB.out.cell (World.block_lt_of_cell? w _ hx154_2)).trans hx154_2
                            replace hx154_3 := (HB.out.cell (World.block_lt_of_cell? w _ hx154_3)).trans hx154_3
                            replace hx154_4 := (HB.out.cell (World.block_lt_of_cell? w _ hx154_4)).trans hx154_4
                            replace hx154_5 := (HB.out.cell (World.block_lt_of_cell? w _ hx154_5)).trans hx154_5
                            replace p154 := eq_true p154
                            replace q154 := eq_true q154
                            refine start_ (n := 8) (S := fun w' => w'.cell? ⟨gb150, 0, none⟩ = some (.int .i64 ((rd_T100 y145 x19_1).f0)) ∧ w'.cell? ⟨gb150, 1, none⟩ = some (.int .i64 ((rd_T100 y145 x19_1).f1)) ∧ w'.cell? ⟨gb150, 2, none⟩ = some (.int .i64 ((rd_T100 y145 x19_1).f2)) ∧ w'.cell? ⟨gb150, 3, none⟩ = some (.string ((rd_T100 y145 x19_1).f3)) ∧ w'.cell? ⟨gb150, 4, none⟩ = some (.string ((rd_T100 y145 x19_1).f4)) ∧ w'.cell? ⟨gb150, 5, none⟩ = some (.string ((rd_T100 y145 x19_1).f5)) ∧ w'.cell? (ad143.add ((a1).toNat * 6)) = some (.int .i64 ((rd_T100 l0 a1).f0)) ∧ w'.cell? ⟨(ad143.add ((a1).toNat * 6)).block, (ad143.add ((a1).toNat * 6)).off + 1, none⟩ = some (.int .i64 ((rd_T100 l0 a1).f1)) ∧ w'.cell? ⟨(ad143.add ((a1).toNat * 6)).block, (ad143.add ((a1).toNat * 6)).off + 2, none⟩ = some (.int .i64 ((rd_T100 l0 a1).f2)) ∧ w'.cell? ⟨(ad143.add ((a1).toNat * 6)).block, (ad143.add ((a1).toNat * 6)).off + 3, none⟩ = some (.string ((rd_T100 l0 a1).f3)) ∧ w'.cell? ⟨(ad143.add ((a1).toNat * 6)).block, (ad143.add ((a1).toNat * 6)).off + 4, none⟩ = some (.string ((rd_T100 l0 a1).f4)) ∧ w'.cell? ⟨(ad143.add ((a1).toNat * 6)).block, (ad143.add ((a1).toNat * 6)).off + 5, none⟩ = some (.string ((rd_T100 l0 a1).f5))) (ds := []) #[false, false, false, false, false, false, false, false] (by kernel_rfl) rfl rfl ⟨(blk_cell BK150.out 0).trans rfl, (blk_cell BK150.out 1).trans rfl, (blk_cell BK150.out 2).trans rfl, (blk_cell BK150.out 3).trans rfl, (blk_cell BK150.out 4).trans rfl, (blk_cell BK150.out 5).trans rfl, ((HB.out.cell (World.block_lt_of_cell? w _ hw154_0)).trans hw154_0), ((HB.out.cell (World.block_lt_of_cell? w _ hw154_1)).trans hw154_1), ((HB.out.cell (World.block_lt_of_cell? w _ hw154_2)).trans hw154_2), ((HB.out.cell (World.block_lt_of_cell? w _ hw154_3)).trans hw154_3), ((HB.out.cell (World.block_lt_of_cell? w _ hw154_4)).trans hw154_4), ((HB.out.cell (World.block_lt_of_cell? w _ hw154_5)).trans hw154_5)⟩ (fun hHeld => ?_); refine with_tabW deployment_effect.tab5 deployment_effect.bits5 (fun HT_ HW_ => ?_)
                            generalize w39.drew = w40 at BK142 BK144 BK150 HB hx154_0 hx154_1 hx154_2 hx154_3 hx154_4 hx154_5 hHeld ⊢
                            refine pu_ 2 (some 25) (bq 8 4) HT_ rfl rfl ?_
                            refine pu_ 3 (some 26) (bq 8 12) HT_ rfl rfl ?_
                            refine pu_ 4 (some 27) (bq 8 28) HT_ rfl rfl ?_
                            refine take_ (i := 0) (N := some 23) (v := ?_) (a' := ?_) #[true, false, true, true, true, false, false, false] rfl rfl (take_ofW HT_.out HW_.out (by kernel_rfl)) (fun _ _ _ h => h) (Or.inl ⟨by rfl, ?_⟩) hHeld ?_ ?_
                            rotate_left
                            · rintro w' ⟨s0, s1, s2, s3, s4, s5, s6, s7, s8, s9, s10, s11⟩
                              go_simp
                              with_reducible rfl
                            rotate_left
                            · simp only [Act.put, List.setIfInBounds_toArray, List.set_cons_zero, List.set_cons_succ, i64_w, i32_w]
                              rfl
                            refine take_ (i := 5) (N := some 28) (v := ?_) (a' := ?_) #[true, false, true, true, true, true, false, false] rfl rfl (take_ofW HT_.out HW_.out (by kernel_rfl)) (fun _ _ _ h => h) (Or.inl ⟨by rfl, ?_⟩) hHeld ?_ ?_
                            rotate_left
                            · rintro w' ⟨s0, s1, s2, s3, s4, s5, s6, s7, s8, s9, s10, s11⟩
                              go_simp
                              with_reducible rfl
                            rotate_left
                            · simp only [Act.put, List.setIfInBounds_toArray, List.set_cons_zero, List.set_cons_succ, i64_w, i32_w]
                              rfl
                            refine one_ (i := 1) (N := some 24) #[true, true, true, true, true, true, false, false] rfl rfl (one_of HT_.out (by kernel_rfl)) (by decide) (fun K hK => ?_)
                            refine goes_ Try.func87 (by kernel_rfl) rfl #[.agg #[.int .i64 ((rd_T100 y145 x19_1).f0), .int .i64 ((rd_T100 y145 x19_1).f1), .int .i64 ((rd_T100 y145 x19_1).f2), .string ((rd_T100 y145 x19_1).f3), .string ((rd_T100 y145 x19_1).f4), .string ((rd_T100 y145 x19_1).f5)]] (by rfl) rfl rfl (by (try simp only [List.map_toArray, List.map_cons, List.map_nil]); first | done | rfl | (simp only [List.length_drop, List.length_take]; rfl)) ?_
                            with_reducible refine (deployment_subjectOf.calls ((rd_T100 y145 x19_1).f0) ((rd_T100 y145 x19_1).f1) ((rd_T100 y145 x19_1).f2) ((rd_T100 y145 x19_1).f3) ((rd_T100 y145 x19_1).f4) ((rd_T100 y145 x19_1).f5) t151 t152 t153 _ A17.out).mono ?_
                            rintro e w41 ⟨rfl, hb⟩
                            refine ⟨_, rfl, ?_⟩
                            have n0_ := Aside0.mk (blk_below (g := gb142) (o := .cells #[.int .i64 0, .int .i64 0] 29 (0, 0)) (by (with_reducible repeat (first | refine blk_drewN ?_ _ | refine blk_drew ?_ | refine blk_alloc ?_ _)); exact BK142.out) hb)
                            have n1_ := Aside0.mk (blk_below (g := gb144) (o := .cells #[.int .i64 ((rd_T100 l0 a1).f2), .int .i64 x145001_1] 29 (0, 0)) (by (with_reducible repeat (first | refine blk_drewN ?_ _ | refine blk_drew ?_ | refine blk_alloc ?_ _)); exact BK144.out) hb)
                            have n2_ := Aside0.mk (blk_below (g := gb150) (o := .cells #[.int .i64 ((rd_T100 y145 x19_1).f0), .int .i64 ((rd_T100 y145 x19_1).f1), .int .i64 ((rd_T100 y145 x19_1).f2), .string ((rd_T100 y145 x19_1).f3), .string ((rd_T100 y145 x19_1).f4), .string ((rd_T100 y145 x19_1).f5)] 100 (0, 0)) (by (with_reducible repeat (first | refine blk_drewN ?_ _ | refine blk_drew ?_ | refine blk_alloc ?_ _)); exact BK150.out) hb)
                            have n3_ := Aside0.mk (below_step (by repeat (first | (with_reducible first | exact HB.out | apply below_alloc | apply pw_below_drewN | apply below_drew1 | refine below_set ?_ GE142.out | refine below_set ?_ GE144.out | refine below_set ?_ GE150.out) | exact HB.out)) hb)
                            clear BK142
                            clear BK144
                            clear BK150
                            clear HB
                            have BK142 := n0_
                            have BK144 := n1_
                            have BK150 := n2_
                            have HB := n3_
                            clear n0_ n1_ n2_ n3_
                            (try clear hb)
                            (try clear hb2)
                            (try clear hk)
                            (try clear hi)
                            refine hK.out _ _ ⟨(blk_cell BK150.out 0).trans rfl, (blk_cell BK150.out 1).trans rfl, (blk_cell BK150.out 2).trans rfl, (blk_cell BK150.out 3).trans rfl, (blk_cell BK150.out 4).trans rfl, (blk_cell BK150.out 5).trans rfl, ((HB.out.cell (World.block_lt_of_cell? w _ hw154_0)).trans hw154_0), ((HB.out.cell (World.block_lt_of_cell? w _ hw154_1)).trans hw154_1), ((HB.out.cell (World.block_lt_of_cell? w _ hw154_2)).trans hw154_2), ((HB.out.cell (World.block_lt_of_cell? w _ hw154_3)).trans hw154_3), ((HB.out.cell (World.block_lt_of_cell? w _ hw154_4)).trans hw154_4), ((HB.out.cell (World.block_lt_of_cell? w _ hw154_5)).trans hw154_5)⟩ (fun hHeld => ?_)
                            clear hK K
                            refine norm_ (a' := ?_) ?_ ?_
                            rotate_left
                            · show Act.put _ (some 24) _ = _
                              simp only [Act.put, List.setIfInBounds_toArray, List.set_cons_zero, List.set_cons_succ, i64_w, i32_w]
                              rfl
                            refine one_ (i := 6) (N := some 29) #[true, true, true, true, true, true, true, false] rfl rfl (one_of HT_.out (by kernel_rfl)) (by decide) (fun K hK => ?_)
                            refine goes_ Try.func87 (by kernel_rfl) rfl #[.agg #[.int .i64 ((rd_T100 l0 a1).f0), .int .i64 ((rd_T100 l0 a1).f1), .int .i64 ((rd_T100 l0 a1).f2), .string ((rd_T100 l0 a1).f3), .string ((rd_T100 l0 a1).f4), .string ((rd_T100 l0 a1).f5)]] (by rfl) rfl rfl (by (try simp only [List.map_toArray, List.map_cons, List.map_nil]); first | done | rfl | (simp only [List.length_drop, List.length_take]; rfl)) ?_
                            with_reducible refine (deployment_subjectOf.calls ((rd_T100 l0 a1).f0) ((rd_T100 l0 a1).f1) ((rd_T100 l0 a1).f2) ((rd_T100 l0 a1).f3) ((rd_T100 l0 a1).f4) ((rd_T100 l0 a1).f5) t155 t156 t157 _ A20.out).mono ?_
                            rintro e w42 ⟨rfl, hb⟩
                            refine ⟨_, rfl, ?_⟩
                            have n0_ := Aside0.mk (blk_below (g := gb142) (o := .cells #[.int .i64 0, .int .i64 0] 29 (0, 0)) (by (with_reducible repeat (first | refine blk_drewN ?_ _ | refine blk_drew ?_ | refine blk_alloc ?_ _)); exact BK142.out) hb)
                            have n1_ := Aside0.mk (blk_below (g := gb144) (o := .cells #[.int .i64 ((rd_T100 l0 a1).f2), .int .i64 x145001_1] 29 (0, 0)) (by (with_reducible repeat (first | refine blk_drewN ?_ _ | refine blk_drew ?_ | refine blk_alloc ?_ _)); exact BK144.out) hb)
                            have n2_ := Aside0.mk (blk_below (g := gb150) (o := .cells #[.int .i64 ((rd_T100 y145 x19_1).f0), .int .i64 ((rd_T100 y145 x19_1).f1), .int .i64 ((rd_T100 y145 x19_1).f2), .string ((rd_T100 y145 x19_1).f3), .string ((rd_T100 y145 x19_1).f4), .string ((rd_T100 y145 x19_1).f5)] 100 (0, 0)) (by (with_reducible repeat (first | refine blk_drewN ?_ _ | refine blk_drew ?_ | refine blk_alloc ?_ _)); exact BK150.out) hb)
                            have n3_ := Aside0.mk (below_step (by repeat (first | (with_reducible first | exact HB.out | apply below_alloc | apply pw_below_drewN | apply below_drew1 | refine below_set ?_ GE142.out | refine below_set ?_ GE144.out | refine below_set ?_ GE150.out) | exact HB.out)) hb)
                            clear BK142
                            clear BK144
                            clear BK150
                            clear HB
                            have BK142 := n0_
                            have BK144 := n1_
                            have BK150 := n2_
                            have HB := n3_
                            clear n0_ n1_ n2_ n3_
                            (try clear hb)
                            (try clear hb2)
                            (try clear hk)
                            (try clear hi)
                            refine hK.out _ _ ⟨(blk_cell BK150.out 0).trans rfl, (blk_cell BK150.out 1).trans rfl, (blk_cell BK150.out 2).trans rfl, (blk_cell BK150.out 3).trans rfl, (blk_cell BK150.out 4).trans rfl, (blk_cell BK150.out 5).trans rfl, ((HB.out.cell (World.block_lt_of_cell? w _ hw154_0)).trans hw154_0), ((HB.out.cell (World.block_lt_of_cell? w _ hw154_1)).trans hw154_1), ((HB.out.cell (World.block_lt_of_cell? w _ hw154_2)).trans hw154_2), ((HB.out.cell (World.block_lt_of_cell? w _ hw154_3)).trans hw154_3), ((HB.out.cell (World.block_lt_of_cell? w _ hw154_4)).trans hw154_4), ((HB.out.cell (World.block_lt_of_cell? w _ hw154_5)).trans hw154_5)⟩ (fun hHeld => ?_)
                            clear hK K
                            refine norm_ (a' := ?_) ?_ ?_
                            rotate_left
                            · show Act.put _ (some 29) _ = _
                              simp only [Act.put, List.setIfInBounds_toArray, List.set_cons_zero, List.set_cons_succ, i64_w, i32_w]
                              rfl
                            refine pu_ 7 (some 30) (bq 8 255) HT_ rfl rfl ?_
                            refine done_ (done_of HT_.out (by kernel_rfl)) ?_
                            have hcz43_0 : w42.cell? ⟨gb150, 0, none⟩ = some (.int .i64 ((rd_T100 y145 x19_1).f0)) := (blk_cell BK150.out 0).trans rfl
                            have hcz43_1 : w42.cell? ⟨gb150, 1, none⟩ = some (.int .i64 ((rd_T100 y145 x19_1).f1)) := (blk_cell BK150.out 1).trans rfl
                            have hcz43_2 : w42.cell? ⟨gb150, 2, none⟩ = some (.int .i64 ((rd_T100 y145 x19_1).f2)) := (blk_cell BK150.out 2).trans rfl
                            have hcz43_3 : w42.cell? ⟨gb150, 3, none⟩ = some (.string ((rd_T100 y145 x19_1).f3)) := (blk_cell BK150.out 3).trans rfl
                            have hcz43_4 : w42.cell? ⟨gb150, 4, none⟩ = some (.string ((rd_T100 y145 x19_1).f4)) := (blk_cell BK150.out 4).trans rfl
                            have hcz43_5 : w42.cell? ⟨gb150, 5, none⟩ = some (.string ((rd_T100 y145 x19_1).f5)) := (blk_cell BK150.out 5).trans rfl
                            have hfz43_0 := blk_frozen BK150.out 0
                            have hfz43_1 := blk_frozen BK150.out 1
                            have hfz43_2 := blk_frozen BK150.out 2
                            have hfz43_3 := blk_frozen BK150.out 3
                            have hfz43_4 := blk_frozen BK150.out 4
                            have hfz43_5 := blk_frozen BK150.out 5
                            have hnb44 := NB144_142.out
                            have hnc44 := NB142_144.out
                            have hcz45_0 : w42.cell? ⟨gb144, 0, none⟩ = some (.int .i64 ((rd_T100 l0 a1).f2)) := (blk_cell BK144.out 0).trans rfl
                            have hcz45_1 : w42.cell? ⟨gb144, 1, none⟩ = some (.int .i64 x145001_1) := (blk_cell BK144.out 1).trans rfl
                            have hfz45_0 := blk_frozen BK144.out 0
                            have hfz45_1 := blk_frozen BK144.out 1
                            have hcz46_0 : w42.cell? ⟨gb142, 0, none⟩ = some (.int .i64 0) := (blk_cell BK142.out 0).trans rfl
                            have hcz46_1 : w42.cell? ⟨gb142, 1, none⟩ = some (.int .i64 0) := (blk_cell BK142.out 1).trans rfl
                            have hfz46_0 := blk_frozen BK142.out 0
                            have hfz46_1 := blk_frozen BK142.out 1
                            try go_wp2
                            refine bodyPost_ret (results_cell_row rfl _ _ gb142 29 #[.int .i64 ((rd_T100 l0 a1).f2), .int .i64 ((rd_T100 y145 x19_1).f2)] (0, 0) _ rfl (by (with_reducible repeat (first | refine blk_drewN ?_ _ | refine blk_drew ?_ | refine blk_alloc ?_ _)); refine blk_put (cs := #[.int .i64 ((rd_T100 l0 a1).f2), .int .i64 0]) ?_ 1 _ rfl; (with_reducible repeat (first | refine blk_drewN ?_ _ | refine blk_drew ?_ | refine blk_alloc ?_ _)); refine blk_put (cs := #[.int .i64 0, .int .i64 0]) ?_ 0 _ rfl; (with_reducible repeat (first | refine blk_drewN ?_ _ | refine blk_drew ?_ | refine blk_alloc ?_ _)); refine blk_far ?_ NB142_144.out _; (with_reducible repeat (first | refine blk_drewN ?_ _ | refine blk_drew ?_ | refine blk_alloc ?_ _)); exact BK142.out) Try.underlying29 rfl (by kernel_rfl)) rfl ?_
                            exact ⟨by first | rfl | (simp [errW_none, errW_some] <;> rfl) | (simp only [← hji5]; first | rfl | (simp [errW_none, errW_some] <;> rfl)) | (simp [*, errW_none, errW_some] <;> rfl), by repeat (first | (with_reducible first | exact HB.out | apply below_alloc | apply pw_below_drewN | apply below_drew1 | refine below_set ?_ GE142.out | refine below_set ?_ GE144.out | refine below_set ?_ GE150.out) | exact HB.out)⟩
                        · rw [if_neg c21] at H
                          have c21b0 : (t151 == t155 && (t152.toList == t156.toList && (t153.toList == t157.toList))) = false := by simpa using c21
                          (try (have c21b1 : decide (t151 = t155 && (t152.toList == t156.toList && (t153.toList == t157.toList))) = false := by simpa using c21))
                          (try (have c21b2 : (t151 == t155 && (t152.toList == t156.toList && (t153.toList == t157.toList))) = false := by simpa using c21))
                          (try (have c21b3 : ¬ (t151 = t155 && (t152.toList == t156.toList && (t153.toList == t157.toList))) := by simpa using c21))
                          clear c21
                          have H' := Aside0.mk H
                          clear H
                          have p149 : 0 ≤ (x19_1 : Int) := of_decide_eq_true (by first | (with_reducible assumption) | assumption)
                          have q149 : x19_1 < (y145.length : Int) := of_decide_eq_true (by first | (with_reducible assumption) | assumption)
                          obtain ⟨ad149, e149, hx149_0, hx149_1, hx149_2, hx149_3, hx149_4, hx149_5⟩ := at_T100 HR148.out x19_1 p149 q149
                          cases e149
                          replace hx149_0 := (HB.out.cell (World.block_lt_of_cell? w _ hx149_0)).trans hx149_0
                          replace hx149_1 := (HB.out.cell (World.block_lt_of_cell? w _ hx149_1)).trans hx149_1
                          replace hx149_2 := (HB.out.cell (World.block_lt_of_cell? w _ hx149_2)).trans hx149_2
                          replace hx149_3 := (HB.out.cell (World.block_lt_of_cell? w _ hx149_3)).trans hx149_3
                          replace hx149_4 := (HB.out.cell (World.block_lt_of_cell? w _ hx149_4)).trans hx149_4
                          replace hx149_5 := (HB.out.cell (World.block_lt_of_cell? w _ hx149_5)).trans hx149_5
                          replace p149 := eq_true p149
                          replace q149 := eq_true q149
                          try go_wp2_with (first | ((with_reducible refine gate_dst (N := 7) rfl ?_); refine box_event ?hg (N := 7) ?hd (cs := #[.int .i64 0, .int .i64 0, .int .i64 0, .string (⟨#[]⟩ : ByteArray), .string (⟨#[]⟩ : ByteArray), .string (⟨#[]⟩ : ByteArray)]) (t := 100) ?hr ?_; (case hd => rfl); (case hg => rfl); (case hr => first | (go_simp; done) | (go_simp; rfl)); intro gb150 hg w47 hbox hb; have n0_ := Aside0.mk (blk_below (g := gb142) (o := .cells #[.int .i64 0, .int .i64 0] 29 (0, 0)) (by (with_reducible repeat (first | refine blk_drewN ?_ _ | refine blk_drew ?_ | refine blk_alloc ?_ _)); exact BK142.out) hb); have n1_ := Aside0.mk (blk_below (g := gb144) (o := .cells #[.int .i64 ((rd_T100 l0 a1).f2), .int .i64 x145001_1] 29 (0, 0)) (by (with_reducible repeat (first | refine blk_drewN ?_ _ | refine blk_drew ?_ | refine blk_alloc ?_ _)); exact BK144.out) hb); have n2_ := Aside0.mk (below_step (by repeat (first | (with_reducible first | exact HB.out | apply below_alloc | apply pw_below_drewN | apply below_drew1 | refine below_set ?_ GE142.out | refine below_set ?_ GE144.out) | exact HB.out)) hb); have n3_ := Aside0.mk (hbox); have n4_ := Aside0.mk ((by rw [hg]; exact (below_size (by repeat (first | (with_reducible first | exact HB.out | apply below_alloc | apply pw_below_drewN | apply below_drew1 | refine below_set ?_ GE142.out | refine below_set ?_ GE144.out) | exact HB.out))) : w.heap.size ≤ gb150)); have n5_ := Aside0.mk ((by rw [hg]; exact (below_size (by repeat (first | (with_reducible first | exact HB.out | apply below_alloc | apply pw_below_drewN | apply below_drew1 | refine below_set ?_ GE142.out | refine below_set ?_ GE144.out) | exact HB.out))) : w.heap.size ≤ gb150)); have n6_ := Aside0.mk ((by rw [hg]; exact Nat.ne_of_lt (blk_lt (g := gb142) (o := .cells #[.int .i64 0, .int .i64 0] 29 (0, 0)) (by (with_reducible repeat (first | refine blk_drewN ?_ _ | refine blk_drew ?_ | refine blk_alloc ?_ _)); exact BK142.out)) : gb142 ≠ gb150)); have n7_ := Aside0.mk ((by rw [hg]; exact Nat.ne_of_gt (blk_lt (g := gb142) (o := .cells #[.int .i64 0, .int .i64 0] 29 (0, 0)) (by (with_reducible repeat (first | refine blk_drewN ?_ _ | refine blk_drew ?_ | refine blk_alloc ?_ _)); exact BK142.out)) : gb150 ≠ gb142)); have n8_ := Aside0.mk ((by rw [hg]; exact Nat.ne_of_lt (blk_lt (g := gb144) (o := .cells #[.int .i64 ((rd_T100 l0 a1).f2), .int .i64 x145001_1] 29 (0, 0)) (by (with_reducible repeat (first | refine blk_drewN ?_ _ | refine blk_drew ?_ | refine blk_alloc ?_ _)); exact BK144.out)) : gb144 ≠ gb150)); have n9_ := Aside0.mk ((by rw [hg]; exact Nat.ne_of_gt (blk_lt (g := gb144) (o := .cells #[.int .i64 ((rd_T100 l0 a1).f2), .int .i64 x145001_1] 29 (0, 0)) (by (with_reducible repeat (first | refine blk_drewN ?_ _ | refine blk_drew ?_ | refine blk_alloc ?_ _)); exact BK144.out)) : gb150 ≠ gb144)); clear BK142; clear BK144; clear HB; have BK142 := n0_; have BK144 := n1_; have HB := n2_; have BK150 := n3_; have GW150 := n4_; have GE150 := n5_; have NB142_150 := n6_; have NB150_142 := n7_; have NB144_150 := n8_; have NB150_144 := n9_; clear n0_ n1_ n2_ n3_ n4_ n5_ n6_ n7_ n8_ n9_; clear hb hbox hg; have hnb48 := NB150_142.out; have hnc48 := NB142_150.out; have hnb49 := NB150_144.out; have hnc49 := NB144_150.out; have hcz50_0 : w47.cell? ⟨gb150, 0, none⟩ = some (.int .i64 0) := (blk_cell BK150.out 0).trans rfl; have hcz50_1 : w47.cell? ⟨gb150, 1, none⟩ = some (.int .i64 0) := (blk_cell BK150.out 1).trans rfl; have hcz50_2 : w47.cell? ⟨gb150, 2, none⟩ = some (.int .i64 0) := (blk_cell BK150.out 2).trans rfl; have hcz50_3 : w47.cell? ⟨gb150, 3, none⟩ = some (.string (⟨#[]⟩ : ByteArray)) := (blk_cell BK150.out 3).trans rfl; have hcz50_4 : w47.cell? ⟨gb150, 4, none⟩ = some (.string (⟨#[]⟩ : ByteArray)) := (blk_cell BK150.out 4).trans rfl; have hcz50_5 : w47.cell? ⟨gb150, 5, none⟩ = some (.string (⟨#[]⟩ : ByteArray)) := (blk_cell BK150.out 5).trans rfl; have hfz50_0 := blk_frozen BK150.out 0; have hfz50_1 := blk_frozen BK150.out 1; have hfz50_2 := blk_frozen BK150.out 2; have hfz50_3 := blk_frozen BK150.out 3; have hfz50_4 := blk_frozen BK150.out 4; have hfz50_5 := blk_frozen BK150.out 5))
                          have n0_ : Aside0 (((((((w47.setCell ⟨gb150, 0, none⟩ (.int .i64 ((rd_T100 y145 x19_1).f0))).setCell ⟨gb150, 1, none⟩ (.int .i64 ((rd_T100 y145 x19_1).f1))).setCell ⟨gb150, 2, none⟩ (.int .i64 ((rd_T100 y145 x19_1).f2))).setCell ⟨gb150, 3, none⟩ (.string ((rd_T100 y145 x19_1).f3))).setCell ⟨gb150, 4, none⟩ (.string ((rd_T100 y145 x19_1).f4))).setCell ⟨gb150, 5, none⟩ (.string ((rd_T100 y145 x19_1).f5))).heap[gb142]? = some (.cells #[.int .i64 0, .int .i64 0] 29 (0, 0))) := ⟨by (with_reducible repeat (first | refine blk_drewN ?_ _ | refine blk_drew ?_ | refine blk_alloc ?_ _)); refine blk_far ?_ NB142_150.out _; (with_reducible repeat (first | refine blk_drewN ?_ _ | refine blk_drew ?_ | refine blk_alloc ?_ _)); refine blk_far ?_ NB142_150.out _; (with_reducible repeat (first | refine blk_drewN ?_ _ | refine blk_drew ?_ | refine blk_alloc ?_ _)); refine blk_far ?_ NB142_150.out _; (with_reducible repeat (first | refine blk_drewN ?_ _ | refine blk_drew ?_ | refine blk_alloc ?_ _)); refine blk_far ?_ NB142_150.out _; (with_reducible repeat (first | refine blk_drewN ?_ _ | refine blk_drew ?_ | refine blk_alloc ?_ _)); refine blk_far ?_ NB142_150.out _; (with_reducible repeat (first | refine blk_drewN ?_ _ | refine blk_drew ?_ | refine blk_alloc ?_ _)); refine blk_far ?_ NB142_150.out _; (with_reducible repeat (first | refine blk_drewN ?_ _ | refine blk_drew ?_ | refine blk_alloc ?_ _)); exact BK142.out⟩
                          have n1_ : Aside0 (((((((w47.setCell ⟨gb150, 0, none⟩ (.int .i64 ((rd_T100 y145 x19_1).f0))).setCell ⟨gb150, 1, none⟩ (.int .i64 ((rd_T100 y145 x19_1).f1))).setCell ⟨gb150, 2, none⟩ (.int .i64 ((rd_T100 y145 x19_1).f2))).setCell ⟨gb150, 3, none⟩ (.string ((rd_T100 y145 x19_1).f3))).setCell ⟨gb150, 4, none⟩ (.string ((rd_T100 y145 x19_1).f4))).setCell ⟨gb150, 5, none⟩ (.string ((rd_T100 y145 x19_1).f5))).heap[gb144]? = some (.cells #[.int .i64 ((rd_T100 l0 a1).f2), .int .i64 x145001_1] 29 (0, 0))) := ⟨by (with_reducible repeat (first | refine blk_drewN ?_ _ | refine blk_drew ?_ | refine blk_alloc ?_ _)); refine blk_far ?_ NB144_150.out _; (with_reducible repeat (first | refine blk_drewN ?_ _ | refine blk_drew ?_ | refine blk_alloc ?_ _)); refine blk_far ?_ NB144_150.out _; (with_reducible repeat (first | refine blk_drewN ?_ _ | refine blk_drew ?_ | refine blk_alloc ?_ _)); refine blk_far ?_ NB144_150.out _; (with_reducible repeat (first | refine blk_drewN ?_ _ | refine blk_drew ?_ | refine blk_alloc ?_ _)); refine blk_far ?_ NB144_150.out _; (with_reducible repeat (first | refine blk_drewN ?_ _ | refine blk_drew ?_ | refine blk_alloc ?_ _)); refine blk_far ?_ NB144_150.out _; (with_reducible repeat (first | refine blk_drewN ?_ _ | refine blk_drew ?_ | refine blk_alloc ?_ _)); refine blk_far ?_ NB144_150.out _; (with_reducible repeat (first | refine blk_drewN ?_ _ | refine blk_drew ?_ | refine blk_alloc ?_ _)); exact BK144.out⟩
                          have n2_ : Aside0 (((((((w47.setCell ⟨gb150, 0, none⟩ (.int .i64 ((rd_T100 y145 x19_1).f0))).setCell ⟨gb150, 1, none⟩ (.int .i64 ((rd_T100 y145 x19_1).f1))).setCell ⟨gb150, 2, none⟩ (.int .i64 ((rd_T100 y145 x19_1).f2))).setCell ⟨gb150, 3, none⟩ (.string ((rd_T100 y145 x19_1).f3))).setCell ⟨gb150, 4, none⟩ (.string ((rd_T100 y145 x19_1).f4))).setCell ⟨gb150, 5, none⟩ (.string ((rd_T100 y145 x19_1).f5))).heap[gb150]? = some (.cells #[.int .i64 ((rd_T100 y145 x19_1).f0), .int .i64 ((rd_T100 y145 x19_1).f1), .int .i64 ((rd_T100 y145 x19_1).f2), .string ((rd_T100 y145 x19_1).f3), .string ((rd_T100 y145 x19_1).f4), .string ((rd_T100 y145 x19_1).f5)] 100 (0, 0))) := ⟨by (with_reducible repeat (first | refine blk_drewN ?_ _ | refine blk_drew ?_ | refine blk_alloc ?_ _)); refine blk_put (cs := #[.int .i64 ((rd_T100 y145 x19_1).f0), .int .i64 ((rd_T100 y145 x19_1).f1), .int .i64 ((rd_T100 y145 x19_1).f2), .string ((rd_T100 y145 x19_1).f3), .string ((rd_T100 y145 x19_1).f4), .string (⟨#[]⟩ : ByteArray)]) ?_ 5 _ rfl; (with_reducible repeat (first | refine blk_drewN ?_ _ | refine blk_drew ?_ | refine blk_alloc ?_ _)); refine blk_put (cs := #[.int .i64 ((rd_T100 y145 x19_1).f0), .int .i64 ((rd_T100 y145 x19_1).f1), .int .i64 ((rd_T100 y145 x19_1).f2), .string ((rd_T100 y145 x19_1).f3), .string (⟨#[]⟩ : ByteArray), .string (⟨#[]⟩ : ByteArray)]) ?_ 4 _ rfl; (with_reducible repeat (first | refine blk_drewN ?_ _ | refine blk_drew ?_ | refine blk_alloc ?_ _)); refine blk_put (cs := #[.int .i64 ((rd_T100 y145 x19_1).f0), .int .i64 ((rd_T100 y145 x19_1).f1), .int .i64 ((rd_T100 y145 x19_1).f2), .string (⟨#[]⟩ : ByteArray), .string (⟨#[]⟩ : ByteArray), .string (⟨#[]⟩ : ByteArray)]) ?_ 3 _ rfl; (with_reducible repeat (first | refine blk_drewN ?_ _ | refine blk_drew ?_ | refine blk_alloc ?_ _)); refine blk_put (cs := #[.int .i64 ((rd_T100 y145 x19_1).f0), .int .i64 ((rd_T100 y145 x19_1).f1), .int .i64 0, .string (⟨#[]⟩ : ByteArray), .string (⟨#[]⟩ : ByteArray), .string (⟨#[]⟩ : ByteArray)]) ?_ 2 _ rfl; (with_reducible repeat (first | refine blk_drewN ?_ _ | refine blk_drew ?_ | refine blk_alloc ?_ _)); refine blk_put (cs := #[.int .i64 ((rd_T100 y145 x19_1).f0), .int .i64 0, .int .i64 0, .string (⟨#[]⟩ : ByteArray), .string (⟨#[]⟩ : ByteArray), .string (⟨#[]⟩ : ByteArray)]) ?_ 1 _ rfl; (with_reducible repeat (first | refine blk_drewN ?_ _ | refine blk_drew ?_ | refine blk_alloc ?_ _)); refine blk_put (cs := #[.int .i64 0, .int .i64 0, .int .i64 0, .string (⟨#[]⟩ : ByteArray), .string (⟨#[]⟩ : ByteArray), .string (⟨#[]⟩ : ByteArray)]) ?_ 0 _ rfl; (with_reducible repeat (first | refine blk_drewN ?_ _ | refine blk_drew ?_ | refine blk_alloc ?_ _)); exact BK150.out⟩
                          have n3_ : Aside0 (Below w.heap.size w ((((((w47.setCell ⟨gb150, 0, none⟩ (.int .i64 ((rd_T100 y145 x19_1).f0))).setCell ⟨gb150, 1, none⟩ (.int .i64 ((rd_T100 y145 x19_1).f1))).setCell ⟨gb150, 2, none⟩ (.int .i64 ((rd_T100 y145 x19_1).f2))).setCell ⟨gb150, 3, none⟩ (.string ((rd_T100 y145 x19_1).f3))).setCell ⟨gb150, 4, none⟩ (.string ((rd_T100 y145 x19_1).f4))).setCell ⟨gb150, 5, none⟩ (.string ((rd_T100 y145 x19_1).f5)))) := ⟨by repeat (first | (with_reducible first | exact HB.out | apply below_alloc | apply pw_below_drewN | apply below_drew1 | refine below_set ?_ GE142.out | refine below_set ?_ GE144.out | refine below_set ?_ GE150.out) | exact HB.out)⟩
                          (try clear BK142)
                          (try clear BK144)
                          (try clear BK150)
                          (try clear HB)
                          generalize ((((((w47.setCell ⟨gb150, 0, none⟩ (.int .i64 ((rd_T100 y145 x19_1).f0))).setCell ⟨gb150, 1, none⟩ (.int .i64 ((rd_T100 y145 x19_1).f1))).setCell ⟨gb150, 2, none⟩ (.int .i64 ((rd_T100 y145 x19_1).f2))).setCell ⟨gb150, 3, none⟩ (.string ((rd_T100 y145 x19_1).f3))).setCell ⟨gb150, 4, none⟩ (.string ((rd_T100 y145 x19_1).f4))).setCell ⟨gb150, 5, none⟩ (.string ((rd_T100 y145 x19_1).f5))) = w51 at n0_ n1_ n2_ n3_ ⊢
                          have BK142 := n0_
                          have BK144 := n1_
                          have BK150 := n2_
                          have HB := n3_
                          clear n0_ n1_ n2_ n3_
                          have n0_ := Aside0.mk (blk_drew BK142.out)
                          have n1_ := Aside0.mk (blk_drew BK144.out)
                          have n2_ := Aside0.mk (blk_drew BK150.out)
                          have n3_ := Aside0.mk (below_drew1 HB.out)
                          clear BK142
                          clear BK144
                          clear BK150
                          clear HB
                          have BK142 := n0_
                          have BK144 := n1_
                          have BK150 := n2_
                          have HB := n3_
                          clear n0_ n1_ n2_ n3_
                          have p154 : 0 ≤ (a1 : Int) := of_decide_eq_true (by first | (with_reducible assumption) | assumption)
                          have q154 : a1 < (l0.length : Int) := of_decide_eq_true (by first | (with_reducible assumption) | assumption)
                          obtain ⟨ad154, e154, hx154_0, hx154_1, hx154_2, hx154_3, hx154_4, hx154_5⟩ := at_T100 HR0.out a1 p154 q154
                          have hw154_5 := hx154_5
                          have hw154_4 := hx154_4
                          have hw154_3 := hx154_3
                          have hw154_2 := hx154_2
                          have hw154_1 := hx154_1
                          have hw154_0 := hx154_0
                          obtain rfl : ad143 = ad154 := (by injection e154)
                          replace hx154_0 := (HB.out.cell (World.block_lt_of_cell? w _ hx154_0)).trans hx154_0
                          replace hx154_1 := (HB.out.cell (World.block_lt_of_cell? w _ hx154_1)).trans hx154_1
                          replace hx154_2 := (HB.out.cell (World.block_lt_of_cell? w _ hx154_2)).trans hx154_2
                          replace hx154_3 := (HB.out.cell (World.block_lt_of_cell? w _ hx154_3)).trans hx154_3
                          replace hx154_4 := (HB.out.cell (World.block_lt_of_cell? w _ hx154_4)).trans hx154_4
                          replace hx154_5 := (HB.out.cell (World.block_lt_of_cell? w _ hx154_5)).trans hx154_5
                          replace p154 := eq_true p154
                          replace q154 := eq_true q154
                          refine start_ (n := 8) (S := fun w' => w'.cell? ⟨gb150, 0, none⟩ = some (.int .i64 ((rd_T100 y145 x19_1).f0)) ∧ w'.cell? ⟨gb150, 1, none⟩ = some (.int .i64 ((rd_T100 y145 x19_1).f1)) ∧ w'.cell? ⟨gb150, 2, none⟩ = some (.int .i64 ((rd_T100 y145 x19_1).f2)) ∧ w'.cell? ⟨gb150, 3, none⟩ = some (.string ((rd_T100 y145 x19_1).f3)) ∧ w'.cell? ⟨gb150, 4, none⟩ = some (.string ((rd_T100 y145 x19_1).f4)) ∧ w'.cell? ⟨gb150, 5, none⟩ = some (.string ((rd_T100 y145 x19_1).f5)) ∧ w'.cell? (ad143.add ((a1).toNat * 6)) = some (.int .i64 ((rd_T100 l0 a1).f0)) ∧ w'.cell? ⟨(ad143.add ((a1).toNat * 6)).block, (ad143.add ((a1).toNat * 6)).off + 1, none⟩ = some (.int .i64 ((rd_T100 l0 a1).f1)) ∧ w'.cell? ⟨(ad143.add ((a1).toNat * 6)).block, (ad143.add ((a1).toNat * 6)).off + 2, none⟩ = some (.int .i64 ((rd_T100 l0 a1).f2)) ∧ w'.cell? ⟨(ad143.add ((a1).toNat * 6)).block, (ad143.add ((a1).toNat * 6)).off + 3, none⟩ = some (.string ((rd_T100 l0 a1).f3)) ∧ w'.cell? ⟨(ad143.add ((a1).toNat * 6)).block, (ad143.add ((a1).toNat * 6)).off + 4, none⟩ = some (.string ((rd_T100 l0 a1).f4)) ∧ w'.cell? ⟨(ad143.add ((a1).toNat * 6)).block, (ad143.add ((a1).toNat * 6)).off + 5, none⟩ = some (.string ((rd_T100 l0 a1).f5))) (ds := []) #[false, false, false, false, false, false, false, false] (by kernel_rfl) rfl rfl ⟨(blk_cell BK150.out 0).trans rfl, (blk_cell BK150.out 1).trans rfl, (blk_cell BK150.out 2).trans rfl, (blk_cell BK150.out 3).trans rfl, (blk_cell BK150.out 4).trans rfl, (blk_cell BK150.out 5).trans rfl, ((HB.out.cell (World.block_lt_of_cell? w _ hw154_0)).trans hw154_0), ((HB.out.cell (World.block_lt_of_cell? w _ hw154_1)).trans hw154_1), ((HB.out.cell (World.block_lt_of_cell? w _ hw154_2)).trans hw154_2), ((HB.out.cell (World.block_lt_of_cell? w _ hw154_3)).trans hw154_3), ((HB.out.cell (World.block_lt_of_cell? w _ hw154_4)).trans hw154_4), ((HB.out.cell (World.block_lt_of_cell? w _ hw154_5)).trans hw154_5)⟩ (fun hHeld => ?_); refine with_tabW deployment_effect.tab5 deployment_effect.bits5 (fun HT_ HW_ => ?_)
                          generalize w51.drew = w52 at BK142 BK144 BK150 HB hx154_0 hx154_1 hx154_2 hx154_3 hx154_4 hx154_5 hHeld ⊢
                          refine pu_ 2 (some 25) (bq 8 4) HT_ rfl rfl ?_
                          refine pu_ 3 (some 26) (bq 8 12) HT_ rfl rfl ?_
                          refine pu_ 4 (some 27) (bq 8 28) HT_ rfl rfl ?_
                          refine take_ (i := 0) (N := some 23) (v := ?_) (a' := ?_) #[true, false, true, true, true, false, false, false] rfl rfl (take_ofW HT_.out HW_.out (by kernel_rfl)) (fun _ _ _ h => h) (Or.inl ⟨by rfl, ?_⟩) hHeld ?_ ?_
                          rotate_left
                          · rintro w' ⟨s0, s1, s2, s3, s4, s5, s6, s7, s8, s9, s10, s11⟩
                            go_simp
                            with_reducible rfl
                          rotate_left
                          · simp only [Act.put, List.setIfInBounds_toArray, List.set_cons_zero, List.set_cons_succ, i64_w, i32_w]
                            rfl
                          refine take_ (i := 5) (N := some 28) (v := ?_) (a' := ?_) #[true, false, true, true, true, true, false, false] rfl rfl (take_ofW HT_.out HW_.out (by kernel_rfl)) (fun _ _ _ h => h) (Or.inl ⟨by rfl, ?_⟩) hHeld ?_ ?_
                          rotate_left
                          · rintro w' ⟨s0, s1, s2, s3, s4, s5, s6, s7, s8, s9, s10, s11⟩
                            go_simp
                            with_reducible rfl
                          rotate_left
                          · simp only [Act.put, List.setIfInBounds_toArray, List.set_cons_zero, List.set_cons_succ, i64_w, i32_w]
                            rfl
                          refine one_ (i := 1) (N := some 24) #[true, true, true, true, true, true, false, false] rfl rfl (one_of HT_.out (by kernel_rfl)) (by decide) (fun K hK => ?_)
                          refine goes_ Try.func87 (by kernel_rfl) rfl #[.agg #[.int .i64 ((rd_T100 y145 x19_1).f0), .int .i64 ((rd_T100 y145 x19_1).f1), .int .i64 ((rd_T100 y145 x19_1).f2), .string ((rd_T100 y145 x19_1).f3), .string ((rd_T100 y145 x19_1).f4), .string ((rd_T100 y145 x19_1).f5)]] (by rfl) rfl rfl (by (try simp only [List.map_toArray, List.map_cons, List.map_nil]); first | done | rfl | (simp only [List.length_drop, List.length_take]; rfl)) ?_
                          with_reducible refine (deployment_subjectOf.calls ((rd_T100 y145 x19_1).f0) ((rd_T100 y145 x19_1).f1) ((rd_T100 y145 x19_1).f2) ((rd_T100 y145 x19_1).f3) ((rd_T100 y145 x19_1).f4) ((rd_T100 y145 x19_1).f5) t151 t152 t153 _ A17.out).mono ?_
                          rintro e w53 ⟨rfl, hb⟩
                          refine ⟨_, rfl, ?_⟩
                          have n0_ := Aside0.mk (blk_below (g := gb142) (o := .cells #[.int .i64 0, .int .i64 0] 29 (0, 0)) (by (with_reducible repeat (first | refine blk_drewN ?_ _ | refine blk_drew ?_ | refine blk_alloc ?_ _)); exact BK142.out) hb)
                          have n1_ := Aside0.mk (blk_below (g := gb144) (o := .cells #[.int .i64 ((rd_T100 l0 a1).f2), .int .i64 x145001_1] 29 (0, 0)) (by (with_reducible repeat (first | refine blk_drewN ?_ _ | refine blk_drew ?_ | refine blk_alloc ?_ _)); exact BK144.out) hb)
                          have n2_ := Aside0.mk (blk_below (g := gb150) (o := .cells #[.int .i64 ((rd_T100 y145 x19_1).f0), .int .i64 ((rd_T100 y145 x19_1).f1), .int .i64 ((rd_T100 y145 x19_1).f2), .string ((rd_T100 y145 x19_1).f3), .string ((rd_T100 y145 x19_1).f4), .string ((rd_T100 y145 x19_1).f5)] 100 (0, 0)) (by (with_reducible repeat (first | refine blk_drewN ?_ _ | refine blk_drew ?_ | refine blk_alloc ?_ _)); exact BK150.out) hb)
                          have n3_ := Aside0.mk (below_step (by repeat (first | (with_reducible first | exact HB.out | apply below_alloc | apply pw_below_drewN | apply below_drew1 | refine below_set ?_ GE142.out | refine below_set ?_ GE144.out | refine below_set ?_ GE150.out) | exact HB.out)) hb)
                          clear BK142
                          clear BK144
                          clear BK150
                          clear HB
                          have BK142 := n0_
                          have BK144 := n1_
                          have BK150 := n2_
                          have HB := n3_
                          clear n0_ n1_ n2_ n3_
                          (try clear hb)
                          (try clear hb2)
                          (try clear hk)
                          (try clear hi)
                          refine hK.out _ _ ⟨(blk_cell BK150.out 0).trans rfl, (blk_cell BK150.out 1).trans rfl, (blk_cell BK150.out 2).trans rfl, (blk_cell BK150.out 3).trans rfl, (blk_cell BK150.out 4).trans rfl, (blk_cell BK150.out 5).trans rfl, ((HB.out.cell (World.block_lt_of_cell? w _ hw154_0)).trans hw154_0), ((HB.out.cell (World.block_lt_of_cell? w _ hw154_1)).trans hw154_1), ((HB.out.cell (World.block_lt_of_cell? w _ hw154_2)).trans hw154_2), ((HB.out.cell (World.block_lt_of_cell? w _ hw154_3)).trans hw154_3), ((HB.out.cell (World.block_lt_of_cell? w _ hw154_4)).trans hw154_4), ((HB.out.cell (World.block_lt_of_cell? w _ hw154_5)).trans hw154_5)⟩ (fun hHeld => ?_)
                          clear hK K
                          refine norm_ (a' := ?_) ?_ ?_
                          rotate_left
                          · show Act.put _ (some 24) _ = _
                            simp only [Act.put, List.setIfInBounds_toArray, List.set_cons_zero, List.set_cons_succ, i64_w, i32_w]
                            rfl
                          refine one_ (i := 6) (N := some 29) #[true, true, true, true, true, true, true, false] rfl rfl (one_of HT_.out (by kernel_rfl)) (by decide) (fun K hK => ?_)
                          refine goes_ Try.func87 (by kernel_rfl) rfl #[.agg #[.int .i64 ((rd_T100 l0 a1).f0), .int .i64 ((rd_T100 l0 a1).f1), .int .i64 ((rd_T100 l0 a1).f2), .string ((rd_T100 l0 a1).f3), .string ((rd_T100 l0 a1).f4), .string ((rd_T100 l0 a1).f5)]] (by rfl) rfl rfl (by (try simp only [List.map_toArray, List.map_cons, List.map_nil]); first | done | rfl | (simp only [List.length_drop, List.length_take]; rfl)) ?_
                          with_reducible refine (deployment_subjectOf.calls ((rd_T100 l0 a1).f0) ((rd_T100 l0 a1).f1) ((rd_T100 l0 a1).f2) ((rd_T100 l0 a1).f3) ((rd_T100 l0 a1).f4) ((rd_T100 l0 a1).f5) t155 t156 t157 _ A20.out).mono ?_
                          rintro e w54 ⟨rfl, hb⟩
                          refine ⟨_, rfl, ?_⟩
                          have n0_ := Aside0.mk (blk_below (g := gb142) (o := .cells #[.int .i64 0, .int .i64 0] 29 (0, 0)) (by (with_reducible repeat (first | refine blk_drewN ?_ _ | refine blk_drew ?_ | refine blk_alloc ?_ _)); exact BK142.out) hb)
                          have n1_ := Aside0.mk (blk_below (g := gb144) (o := .cells #[.int .i64 ((rd_T100 l0 a1).f2), .int .i64 x145001_1] 29 (0, 0)) (by (with_reducible repeat (first | refine blk_drewN ?_ _ | refine blk_drew ?_ | refine blk_alloc ?_ _)); exact BK144.out) hb)
                          have n2_ := Aside0.mk (blk_below (g := gb150) (o := .cells #[.int .i64 ((rd_T100 y145 x19_1).f0), .int .i64 ((rd_T100 y145 x19_1).f1), .int .i64 ((rd_T100 y145 x19_1).f2), .string ((rd_T100 y145 x19_1).f3), .string ((rd_T100 y145 x19_1).f4), .string ((rd_T100 y145 x19_1).f5)] 100 (0, 0)) (by (with_reducible repeat (first | refine blk_drewN ?_ _ | refine blk_drew ?_ | refine blk_alloc ?_ _)); exact BK150.out) hb)
                          have n3_ := Aside0.mk (below_step (by repeat (first | (with_reducible first | exact HB.out | apply below_alloc | apply pw_below_drewN | apply below_drew1 | refine below_set ?_ GE142.out | refine below_set ?_ GE144.out | refine below_set ?_ GE150.out) | exact HB.out)) hb)
                          clear BK142
                          clear BK144
                          clear BK150
                          clear HB
                          have BK142 := n0_
                          have BK144 := n1_
                          have BK150 := n2_
                          have HB := n3_
                          clear n0_ n1_ n2_ n3_
                          (try clear hb)
                          (try clear hb2)
                          (try clear hk)
                          (try clear hi)
                          refine hK.out _ _ ⟨(blk_cell BK150.out 0).trans rfl, (blk_cell BK150.out 1).trans rfl, (blk_cell BK150.out 2).trans rfl, (blk_cell BK150.out 3).trans rfl, (blk_cell BK150.out 4).trans rfl, (blk_cell BK150.out 5).trans rfl, ((HB.out.cell (World.block_lt_of_cell? w _ hw154_0)).trans hw154_0), ((HB.out.cell (World.block_lt_of_cell? w _ hw154_1)).trans hw154_1), ((HB.out.cell (World.block_lt_of_cell? w _ hw154_2)).trans hw154_2), ((HB.out.cell (World.block_lt_of_cell? w _ hw154_3)).trans hw154_3), ((HB.out.cell (World.block_lt_of_cell? w _ hw154_4)).trans hw154_4), ((HB.out.cell (World.block_lt_of_cell? w _ hw154_5)).trans hw154_5)⟩ (fun hHeld => ?_)
                          clear hK K
                          refine norm_ (a' := ?_) ?_ ?_
                          rotate_left
                          · show Act.put _ (some 29) _ = _
                            simp only [Act.put, List.setIfInBounds_toArray, List.set_cons_zero, List.set_cons_succ, i64_w, i32_w]
                            rfl
                          refine pu_ 7 (some 30) (bq 8 255) HT_ rfl rfl ?_
                          refine done_ (done_of HT_.out (by kernel_rfl)) ?_
                          try go_wp2
                          go_roundg k1
                          case measure => have := HK1.out; omega
                          case rel => exact ⟨(wrap64 (x19_1 + 1)), (x145001_1), (by first | rfl | (simp; done) | (simp [*]; done)), H', ⟨by have := HK1.out; omega⟩, ⟨by (with_reducible repeat (first | refine blk_drewN ?_ _ | refine blk_drew ?_ | refine blk_alloc ?_ _)); exact BK142.out⟩, ⟨by (with_reducible repeat (first | refine blk_drewN ?_ _ | refine blk_drew ?_ | refine blk_alloc ?_ _)); exact BK144.out⟩, ⟨by repeat (first | (with_reducible first | exact HB.out | apply below_alloc | apply pw_below_drewN | apply below_drew1 | refine below_set ?_ GE142.out | refine below_set ?_ GE144.out | refine below_set ?_ GE150.out) | exact HB.out)⟩⟩
                      · rw [if_neg c19] at H
                        exact absurd H (by simp)
                    · rw [if_neg c18] at H
                      exact absurd H (by simp)
                  · rw [if_neg c16] at H
                    exact absurd H (by simp)
                · rw [if_neg c15] at H
                  exact absurd H (by simp)
              · rw [if_neg c14] at H
                have c14b0 : decide (x19_1 < (y145.length : Int)) = false := decide_eq_false c14
                clear c14
                by_cases c55 : ((rd_T100 l0 a1).f2) ≥ x145001_1
                · rw [if_pos c55] at H
                  have c55b0 : decide (x145001_1 ≤ ((rd_T100 l0 a1).f2)) = true := decide_eq_true c55
                  clear c55
                  simp only [Option.some.injEq, Prod.mk.injEq] at H
                  obtain ⟨rfl, rfl⟩ := H
                  have hnb56 := NB144_142.out
                  have hnc56 := NB142_144.out
                  have hcz57_0 : wr.cell? ⟨gb144, 0, none⟩ = some (.int .i64 ((rd_T100 l0 a1).f2)) := (blk_cell BK144.out 0).trans rfl
                  have hcz57_1 : wr.cell? ⟨gb144, 1, none⟩ = some (.int .i64 x145001_1) := (blk_cell BK144.out 1).trans rfl
                  have hfz57_0 := blk_frozen BK144.out 0
                  have hfz57_1 := blk_frozen BK144.out 1
                  have hcz58_0 : wr.cell? ⟨gb142, 0, none⟩ = some (.int .i64 0) := (blk_cell BK142.out 0).trans rfl
                  have hcz58_1 : wr.cell? ⟨gb142, 1, none⟩ = some (.int .i64 0) := (blk_cell BK142.out 1).trans rfl
                  have hfz58_0 := blk_frozen BK142.out 0
                  have hfz58_1 := blk_frozen BK142.out 1
                  go_wp2
                  refine bodyPost_ret (results_cell_row rfl _ _ gb142 29 #[.int .i64 0, .int .i64 0] (0, 0) _ rfl (by (with_reducible repeat (first | refine blk_drewN ?_ _ | refine blk_drew ?_ | refine blk_alloc ?_ _)); refine blk_put (cs := #[.int .i64 0, .int .i64 0]) ?_ 1 _ rfl; (with_reducible repeat (first | refine blk_drewN ?_ _ | refine blk_drew ?_ | refine blk_alloc ?_ _)); refine blk_put (cs := #[.int .i64 0, .int .i64 0]) ?_ 0 _ rfl; (with_reducible repeat (first | refine blk_drewN ?_ _ | refine blk_drew ?_ | refine blk_alloc ?_ _)); exact BK142.out) Try.underlying29 rfl (by kernel_rfl)) rfl ?_
                  exact ⟨by first | rfl | (simp [errW_none, errW_some] <;> rfl) | (simp only [← hji5]; first | rfl | (simp [errW_none, errW_some] <;> rfl)) | (simp [*, errW_none, errW_some] <;> rfl), by repeat (first | (with_reducible first | exact HB.out | apply below_alloc | apply pw_below_drewN | apply below_drew1 | refine below_set ?_ GE142.out | refine below_set ?_ GE144.out) | exact HB.out)⟩
                · rw [if_neg c55] at H
                  have c55b0 : decide (x145001_1 ≤ ((rd_T100 l0 a1).f2)) = false := decide_eq_false c55
                  clear c55
                  simp only [Option.some.injEq, Prod.mk.injEq] at H
                  obtain ⟨rfl, rfl⟩ := H
                  have hnb59 := NB144_142.out
                  have hnc59 := NB142_144.out
                  have hcz60_0 : wr.cell? ⟨gb144, 0, none⟩ = some (.int .i64 ((rd_T100 l0 a1).f2)) := (blk_cell BK144.out 0).trans rfl
                  have hcz60_1 : wr.cell? ⟨gb144, 1, none⟩ = some (.int .i64 x145001_1) := (blk_cell BK144.out 1).trans rfl
                  have hfz60_0 := blk_frozen BK144.out 0
                  have hfz60_1 := blk_frozen BK144.out 1
                  have hcz61_0 : wr.cell? ⟨gb142, 0, none⟩ = some (.int .i64 0) := (blk_cell BK142.out 0).trans rfl
                  have hcz61_1 : wr.cell? ⟨gb142, 1, none⟩ = some (.int .i64 0) := (blk_cell BK142.out 1).trans rfl
                  have hfz61_0 := blk_frozen BK142.out 0
                  have hfz61_1 := blk_frozen BK142.out 1
                  go_wp2
                  refine bodyPost_ret (results_cell_row rfl _ _ gb142 29 #[.int .i64 ((rd_T100 l0 a1).f2), .int .i64 x145001_1] (0, 0) _ rfl (by (with_reducible repeat (first | refine blk_drewN ?_ _ | refine blk_drew ?_ | refine blk_alloc ?_ _)); refine blk_put (cs := #[.int .i64 ((rd_T100 l0 a1).f2), .int .i64 0]) ?_ 1 _ rfl; (with_reducible repeat (first | refine blk_drewN ?_ _ | refine blk_drew ?_ | refine blk_alloc ?_ _)); refine blk_put (cs := #[.int .i64 0, .int .i64 0]) ?_ 0 _ rfl; (with_reducible repeat (first | refine blk_drewN ?_ _ | refine blk_drew ?_ | refine blk_alloc ?_ _)); exact BK142.out) Try.underlying29 rfl (by kernel_rfl)) rfl ?_
                  exact ⟨by first | rfl | (simp [errW_none, errW_some] <;> rfl) | (simp only [← hji5]; first | rfl | (simp [errW_none, errW_some] <;> rfl)) | (simp [*, errW_none, errW_some] <;> rfl), by repeat (first | (with_reducible first | exact HB.out | apply below_alloc | apply pw_below_drewN | apply below_drew1 | refine below_set ?_ GE142.out | refine below_set ?_ GE144.out) | exact HB.out)⟩
        · rw [if_neg c7] at H
          exact absurd H (by simp)
      · rw [if_neg c6] at H
        exact absurd H (by simp)
    · rw [if_neg c4] at H
      exact absurd H (by simp)
  · rw [if_neg c3] at H
    exact absurd H (by simp)
end Go.Proofs.Ytdadnapfecmmdaa.P
