-- PRINTED by print.py (a twelfth state) out of the translation. Not trusted: Lean checks it.
import Derived.Test.YtdadnapfecmmdaaP0
import Derived.Test.YtdadnapfecmmdaaPF52
import Derived.Test.YtdadnapfecmmdaaPF43
namespace Go.Proofs.Ytdadnapfecmmdaa.P
open Go.RowKit Go.Proofs.YtdadnapfecmmdaaW.PrintWords Go.Proofs.YtdadnapfecmmdaaW.PrintLast Go.Proofs.YtdadnapfecmmdaaW.PrintMore
attribute [local go_sem] max2_int min2_int max_two min_two max_three min_three max_four min_four   -- for this text's walks alone
set_option linter.unusedVariables false
set_option linter.unusedSimpArgs false

/-! ### simulate_Config_checkRest: function 57 -/
mutual
def simulate_Config_checkRest.j0 : Nat → Bool → Int → List (S64) → List (S91) → List (S100) → List (S61) → Int → Int → Int → Int → Int → Int → Int → Option (Int)
  | 0, _, _, _, _, _, _, _, _, _, _, _, _, _ => none
  | k + 1, x3, x198000, x198001, x198002, x198003, x198004, x198005, x198006, x198007, x198008, x198009, x198010, x198011 => if x3 = true then (some 32) else (if (wrap64 (x198006 - x198005)) > 64 then (some 6) else ((simulate_outside.f x198007 0 16).bind fun t198 => (if t198 = true then (simulate_Config_checkRest.j1 k true x198000 x198001 x198002 x198003 x198004 x198005 x198006 x198007 x198008 x198009 x198010 x198011) else ((simulate_outside.f x198008 0 1048576).bind fun t199 => (if t199 = true then (simulate_Config_checkRest.j1 k true x198000 x198001 x198002 x198003 x198004 x198005 x198006 x198007 x198008 x198009 x198010 x198011) else ((simulate_outside.f x198009 1 64).bind fun t200 => (if t200 = true then (simulate_Config_checkRest.j1 k true x198000 x198001 x198002 x198003 x198004 x198005 x198006 x198007 x198008 x198009 x198010 x198011) else ((simulate_outside.f x198010 0 1000000).bind fun t201 => (if t201 = true then (simulate_Config_checkRest.j1 k true x198000 x198001 x198002 x198003 x198004 x198005 x198006 x198007 x198008 x198009 x198010 x198011) else ((simulate_outside.f x198011 0 1000000).bind fun t202 => (simulate_Config_checkRest.j1 k t202 x198000 x198001 x198002 x198003 x198004 x198005 x198006 x198007 x198008 x198009 x198010 x198011)))))))))))
def simulate_Config_checkRest.j1 : Nat → Bool → Int → List (S64) → List (S91) → List (S100) → List (S61) → Int → Int → Int → Int → Int → Int → Int → Option (Int)
  | 0, _, _, _, _, _, _, _, _, _, _, _, _, _ => none
  | k + 1, x32, x198000, x198001, x198002, x198003, x198004, x198005, x198006, x198007, x198008, x198009, x198010, x198011 => if x32 = true then (some 2) else ((simulate_Config_count.f x198000 x198001 x198002 x198003 x198004 x198005 x198006 x198007 x198008 x198009 x198010 x198011).bind fun t203 => (if t203 > 256 then (some 6) else (some 0)))
end
def simulate_Config_checkRest.f (k : Nat) (a0_0 : Int) (l0_1 : List (S64)) (l0_2 : List (S91)) (l0_3 : List (S100)) (l0_4 : List (S61)) (a0_5 : Int) (a0_6 : Int) (a0_7 : Int) (a0_8 : Int) (a0_9 : Int) (a0_10 : Int) (a0_11 : Int) : Option (Int) := if a0_5 < 0 then (simulate_Config_checkRest.j0 k true a0_0 l0_1 l0_2 l0_3 l0_4 a0_5 a0_6 a0_7 a0_8 a0_9 a0_10 a0_11) else (if a0_6 < a0_5 then (simulate_Config_checkRest.j0 k true a0_0 l0_1 l0_2 l0_3 l0_4 a0_5 a0_6 a0_7 a0_8 a0_9 a0_10 a0_11) else (simulate_Config_checkRest.j0 k (decide (a0_6 > 1048576)) a0_0 l0_1 l0_2 l0_3 l0_4 a0_5 a0_6 a0_7 a0_8 a0_9 a0_10 a0_11))
theorem simulate_Config_checkRest.mono_l : ∀ k, (∀ y0 y1 y2 y3 y4 y5 y6 y7 y8 y9 y10 y11 y12, LeO (simulate_Config_checkRest.j0 k y0 y1 y2 y3 y4 y5 y6 y7 y8 y9 y10 y11 y12) (simulate_Config_checkRest.j0 (k + 1) y0 y1 y2 y3 y4 y5 y6 y7 y8 y9 y10 y11 y12)) ∧ (∀ y0 y1 y2 y3 y4 y5 y6 y7 y8 y9 y10 y11 y12, LeO (simulate_Config_checkRest.j1 k y0 y1 y2 y3 y4 y5 y6 y7 y8 y9 y10 y11 y12) (simulate_Config_checkRest.j1 (k + 1) y0 y1 y2 y3 y4 y5 y6 y7 y8 y9 y10 y11 y12))
  | 0 => ⟨fun _ _ _ _ _ _ _ _ _ _ _ _ _ r h => by simp [simulate_Config_checkRest.j0] at h, fun _ _ _ _ _ _ _ _ _ _ _ _ _ r h => by simp [simulate_Config_checkRest.j1] at h⟩
  | k + 1 => by
    obtain ⟨ih0, ih1⟩ := simulate_Config_checkRest.mono_l k
    refine ⟨?_, ?_⟩
    · intro y0 y1 y2 y3 y4 y5 y6 y7 y8 y9 y10 y11 y12
      unfold simulate_Config_checkRest.j0
      repeat' first
      | (with_reducible exact ih0 _ _ _ _ _ _ _ _ _ _ _ _ _)
      | (with_reducible exact ih1 _ _ _ _ _ _ _ _ _ _ _ _ _)
      | (with_reducible exact LeO.refl _)
      | (with_reducible exact LeO.none _)
      | (with_reducible refine LeO.ite ?_ ?_)
      | (with_reducible refine LeO.bind ?_ (fun _ => ?_))
      | exact ih0 _ _ _ _ _ _ _ _ _ _ _ _ _
      | exact ih1 _ _ _ _ _ _ _ _ _ _ _ _ _
      | exact LeO.none _
      | refine LeO.ite ?_ ?_
      | refine LeO.bind ?_ (fun _ => ?_)
    · intro y0 y1 y2 y3 y4 y5 y6 y7 y8 y9 y10 y11 y12
      unfold simulate_Config_checkRest.j1
      repeat' first
      | (with_reducible exact ih0 _ _ _ _ _ _ _ _ _ _ _ _ _)
      | (with_reducible exact ih1 _ _ _ _ _ _ _ _ _ _ _ _ _)
      | (with_reducible exact LeO.refl _)
      | (with_reducible exact LeO.none _)
      | (with_reducible refine LeO.ite ?_ ?_)
      | (with_reducible refine LeO.bind ?_ (fun _ => ?_))
      | exact ih0 _ _ _ _ _ _ _ _ _ _ _ _ _
      | exact ih1 _ _ _ _ _ _ _ _ _ _ _ _ _
      | exact LeO.none _
      | refine LeO.ite ?_ ?_
      | refine LeO.bind ?_ (fun _ => ?_)
theorem simulate_Config_checkRest.mono : ∀ a0 a1 a2 a3 a4 a5 a6 a7 a8 a9 a10 a11 k, LeO (simulate_Config_checkRest.f k a0 a1 a2 a3 a4 a5 a6 a7 a8 a9 a10 a11) (simulate_Config_checkRest.f (k + 1) a0 a1 a2 a3 a4 a5 a6 a7 a8 a9 a10 a11) := by
  intro a0 a1 a2 a3 a4 a5 a6 a7 a8 a9 a10 a11 k
  obtain ⟨ih0, ih1⟩ := simulate_Config_checkRest.mono_l k
  unfold simulate_Config_checkRest.f
  repeat' first
      | (with_reducible exact ih0 _ _ _ _ _ _ _ _ _ _ _ _ _)
      | (with_reducible exact ih1 _ _ _ _ _ _ _ _ _ _ _ _ _)
      | (with_reducible exact LeO.refl _)
      | (with_reducible exact LeO.none _)
      | (with_reducible refine LeO.ite ?_ ?_)
      | (with_reducible refine LeO.bind ?_ (fun _ => ?_))
      | exact ih0 _ _ _ _ _ _ _ _ _ _ _ _ _
      | exact ih1 _ _ _ _ _ _ _ _ _ _ _ _ _
      | exact LeO.none _
      | refine LeO.ite ?_ ?_
      | refine LeO.bind ?_ (fun _ => ?_)
set_option maxHeartbeats 8000000 in
set_option maxRecDepth 100000 in
theorem simulate_Config_checkRest.calls (k : Nat) (a0_0 : Int) (A0_1 : Option Addr) (c0_1 : Nat) (l0_1 : List (S64)) (A0_2 : Option Addr) (c0_2 : Nat) (l0_2 : List (S91)) (A0_3 : Option Addr) (c0_3 : Nat) (l0_3 : List (S100)) (A0_4 : Option Addr) (c0_4 : Nat) (l0_4 : List (S61)) (a0_5 : Int) (a0_6 : Int) (a0_7 : Int) (a0_8 : Int) (a0_9 : Int) (a0_10 : Int) (a0_11 : Int) (r : Int) (w : World) (hr0_1 : Kd.C k64 w A0_1 l0_1.length l0_1) (hc0_1 : l0_1.length ≤ c0_1) (hr0_2 : Kd.C k91 w A0_2 l0_2.length l0_2) (hc0_2 : l0_2.length ≤ c0_2) (hr0_3 : Kd.C k100 w A0_3 l0_3.length l0_3) (hc0_3 : l0_3.length ≤ c0_3) (hr0_4 : Kd.C k61 w A0_4 l0_4.length l0_4) (hc0_4 : l0_4.length ≤ c0_4) (h : simulate_Config_checkRest.f k a0_0 l0_1 l0_2 l0_3 l0_4 a0_5 a0_6 a0_7 a0_8 a0_9 a0_10 a0_11 = some r) :
    Calls Try.prog 57 #[.agg #[.int .i64 a0_0, .slice A0_1 l0_1.length c0_1, .slice A0_2 l0_2.length c0_2, .slice A0_3 l0_3.length c0_3, .slice A0_4 l0_4.length c0_4, .int .i64 a0_5, .int .i64 a0_6, .int .i64 a0_7, .int .i64 a0_8, .int .i64 a0_9, .int .i64 a0_10, .int .i64 a0_11]] w fun e w' => e = .returned (.int .i64 r) ∧ Below w.heap.size w w' := by
  have hu31 := Try.underlying31
  have HR0_1 := Aside0.mk hr0_1
  have HC0_1 := Aside0.mk hc0_1
  clear hr0_1 hc0_1
  have HR0_2 := Aside0.mk hr0_2
  have HC0_2 := Aside0.mk hc0_2
  clear hr0_2 hc0_2
  have HR0_3 := Aside0.mk hr0_3
  have HC0_3 := Aside0.mk hc0_3
  clear hr0_3 hc0_3
  have HR0_4 := Aside0.mk hr0_4
  have HC0_4 := Aside0.mk hc0_4
  clear hr0_4 hc0_4
  have HB := Aside0.mk (Below.refl w.heap.size w)
  have H : (if a0_5 < 0 then (simulate_Config_checkRest.j0 k true a0_0 l0_1 l0_2 l0_3 l0_4 a0_5 a0_6 a0_7 a0_8 a0_9 a0_10 a0_11) else (if a0_6 < a0_5 then (simulate_Config_checkRest.j0 k true a0_0 l0_1 l0_2 l0_3 l0_4 a0_5 a0_6 a0_7 a0_8 a0_9 a0_10 a0_11) else (simulate_Config_checkRest.j0 k (decide (a0_6 > 1048576)) a0_0 l0_1 l0_2 l0_3 l0_4 a0_5 a0_6 a0_7 a0_8 a0_9 a0_10 a0_11))) = some r := h
  clear h
  have HC2 := Aside0.mk H
  clear H
  go_enter Try.func57, Try.ntmps57
  go_upto_region 1 with (first | ((with_reducible refine gate_dst (N := 1) rfl ?_); refine box_event ?hg (N := 1) ?hd (cs := #[.int .i64 a0_0, .slice A0_1 l0_1.length c0_1, .slice A0_2 l0_2.length c0_2, .slice A0_3 l0_3.length c0_3, .slice A0_4 l0_4.length c0_4, .int .i64 a0_5, .int .i64 a0_6, .int .i64 a0_7, .int .i64 a0_8, .int .i64 a0_9, .int .i64 a0_10, .int .i64 a0_11]) (t := 31) ?hr ?_; (case hd => rfl); (case hg => rfl); (case hr => first | (go_simp; done) | (go_simp; rfl)); intro gb197 hg w3 hbox hb; have n0_ := Aside0.mk (below_step (by repeat (first | (with_reducible first | exact HB.out | apply below_alloc | apply pw_below_drewN | apply below_drew1) | exact HB.out)) hb); have n1_ := Aside0.mk (hbox); have n2_ := Aside0.mk ((by rw [hg]; exact (below_size (by repeat (first | (with_reducible first | exact HB.out | apply below_alloc | apply pw_below_drewN | apply below_drew1) | exact HB.out))) : w.heap.size ≤ gb197)); have n3_ := Aside0.mk ((by rw [hg]; exact (below_size (by repeat (first | (with_reducible first | exact HB.out | apply below_alloc | apply pw_below_drewN | apply below_drew1) | exact HB.out))) : w.heap.size ≤ gb197)); clear HB; have HB := n0_; have BK197 := n1_; have GW197 := n2_; have GE197 := n3_; clear n0_ n1_ n2_ n3_; clear hb hbox hg))
  (try simp only [Act.put, List.setIfInBounds_toArray, List.set_cons_zero, List.set_cons_succ])
  go_cut [3] (fun v3 wc => ∃ (kq : Nat) (x3_1 : Bool), v3 = .bool x3_1 ∧ Aside0 (simulate_Config_checkRest.j0 kq x3_1 a0_0 l0_1 l0_2 l0_3 l0_4 a0_5 a0_6 a0_7 a0_8 a0_9 a0_10 a0_11 = some r) ∧ Aside0 (kq ≤ k) ∧ Aside0 (wc.heap[gb197]? = some (.cells #[.int .i64 a0_0, (.slice A0_1 l0_1.length c0_1), (.slice A0_2 l0_2.length c0_2), (.slice A0_3 l0_3.length c0_3), (.slice A0_4 l0_4.length c0_4), .int .i64 a0_5, .int .i64 a0_6, .int .i64 a0_7, .int .i64 a0_8, .int .i64 a0_9, .int .i64 a0_10, .int .i64 a0_11] 31 (0, 0))) ∧ Aside0 (Below w.heap.size w wc))
  case first =>
    have H := HC2.out
    clear HC2
    by_cases c4 : a0_5 < 0
    · rw [if_pos c4] at H
      have c4b0 : decide (a0_5 < 0) = true := decide_eq_true c4
      clear c4
      (first | rw [c4b0] | (simp only [i64_w, i32_w]; rw [c4b0]) | skip)
      have H' := Aside0.mk H
      clear H
      have hcz5_0 : w3.cell? ⟨gb197, 0, none⟩ = some (.int .i64 a0_0) := (blk_cell BK197.out 0).trans rfl
      have hcz5_1 : w3.cell? ⟨gb197, 1, none⟩ = some (.slice A0_1 l0_1.length c0_1) := (blk_cell BK197.out 1).trans rfl
      have hcz5_2 : w3.cell? ⟨gb197, 2, none⟩ = some (.slice A0_2 l0_2.length c0_2) := (blk_cell BK197.out 2).trans rfl
      have hcz5_3 : w3.cell? ⟨gb197, 3, none⟩ = some (.slice A0_3 l0_3.length c0_3) := (blk_cell BK197.out 3).trans rfl
      have hcz5_4 : w3.cell? ⟨gb197, 4, none⟩ = some (.slice A0_4 l0_4.length c0_4) := (blk_cell BK197.out 4).trans rfl
      have hcz5_5 : w3.cell? ⟨gb197, 5, none⟩ = some (.int .i64 a0_5) := (blk_cell BK197.out 5).trans rfl
      have hcz5_6 : w3.cell? ⟨gb197, 6, none⟩ = some (.int .i64 a0_6) := (blk_cell BK197.out 6).trans rfl
      have hcz5_7 : w3.cell? ⟨gb197, 7, none⟩ = some (.int .i64 a0_7) := (blk_cell BK197.out 7).trans rfl
      have hcz5_8 : w3.cell? ⟨gb197, 8, none⟩ = some (.int .i64 a0_8) := (blk_cell BK197.out 8).trans rfl
      have hcz5_9 : w3.cell? ⟨gb197, 9, none⟩ = some (.int .i64 a0_9) := (blk_cell BK197.out 9).trans rfl
      have hcz5_10 : w3.cell? ⟨gb197, 10, none⟩ = some (.int .i64 a0_10) := (blk_cell BK197.out 10).trans rfl
      have hcz5_11 : w3.cell? ⟨gb197, 11, none⟩ = some (.int .i64 a0_11) := (blk_cell BK197.out 11).trans rfl
      have hfz5_0 := blk_frozen BK197.out 0
      have hfz5_1 := blk_frozen BK197.out 1
      have hfz5_2 := blk_frozen BK197.out 2
      have hfz5_3 := blk_frozen BK197.out 3
      have hfz5_4 := blk_frozen BK197.out 4
      have hfz5_5 := blk_frozen BK197.out 5
      have hfz5_6 := blk_frozen BK197.out 6
      have hfz5_7 := blk_frozen BK197.out 7
      have hfz5_8 := blk_frozen BK197.out 8
      have hfz5_9 := blk_frozen BK197.out 9
      have hfz5_10 := blk_frozen BK197.out 10
      have hfz5_11 := blk_frozen BK197.out 11
      go_wp2
      go_meet
      case rel => exact ⟨_, (true), (by first | rfl | (simp; done) | (simp [*]; done)), H', ⟨by first | omega | exact Nat.le_refl _⟩, ⟨by (with_reducible repeat (first | refine blk_drewN ?_ _ | refine blk_drew ?_ | refine blk_alloc ?_ _)); exact BK197.out⟩, ⟨by repeat (first | (with_reducible first | exact HB.out | apply below_alloc | apply pw_below_drewN | apply below_drew1 | refine below_set ?_ GE197.out) | exact HB.out)⟩⟩
    · rw [if_neg c4] at H
      have c4b0 : decide (a0_5 < 0) = false := decide_eq_false c4
      clear c4
      (first | rw [c4b0] | (simp only [i64_w, i32_w]; rw [c4b0]) | skip)
      by_cases c6 : a0_6 < a0_5
      · rw [if_pos c6] at H
        have c6b0 : decide (a0_6 < a0_5) = true := decide_eq_true c6
        clear c6
        have H' := Aside0.mk H
        clear H
        have hcz7_0 : w3.cell? ⟨gb197, 0, none⟩ = some (.int .i64 a0_0) := (blk_cell BK197.out 0).trans rfl
        have hcz7_1 : w3.cell? ⟨gb197, 1, none⟩ = some (.slice A0_1 l0_1.length c0_1) := (blk_cell BK197.out 1).trans rfl
        have hcz7_2 : w3.cell? ⟨gb197, 2, none⟩ = some (.slice A0_2 l0_2.length c0_2) := (blk_cell BK197.out 2).trans rfl
        have hcz7_3 : w3.cell? ⟨gb197, 3, none⟩ = some (.slice A0_3 l0_3.length c0_3) := (blk_cell BK197.out 3).trans rfl
        have hcz7_4 : w3.cell? ⟨gb197, 4, none⟩ = some (.slice A0_4 l0_4.length c0_4) := (blk_cell BK197.out 4).trans rfl
        have hcz7_5 : w3.cell? ⟨gb197, 5, none⟩ = some (.int .i64 a0_5) := (blk_cell BK197.out 5).trans rfl
        have hcz7_6 : w3.cell? ⟨gb197, 6, none⟩ = some (.int .i64 a0_6) := (blk_cell BK197.out 6).trans rfl
        have hcz7_7 : w3.cell? ⟨gb197, 7, none⟩ = some (.int .i64 a0_7) := (blk_cell BK197.out 7).trans rfl
        have hcz7_8 : w3.cell? ⟨gb197, 8, none⟩ = some (.int .i64 a0_8) := (blk_cell BK197.out 8).trans rfl
        have hcz7_9 : w3.cell? ⟨gb197, 9, none⟩ = some (.int .i64 a0_9) := (blk_cell BK197.out 9).trans rfl
        have hcz7_10 : w3.cell? ⟨gb197, 10, none⟩ = some (.int .i64 a0_10) := (blk_cell BK197.out 10).trans rfl
        have hcz7_11 : w3.cell? ⟨gb197, 11, none⟩ = some (.int .i64 a0_11) := (blk_cell BK197.out 11).trans rfl
        have hfz7_0 := blk_frozen BK197.out 0
        have hfz7_1 := blk_frozen BK197.out 1
        have hfz7_2 := blk_frozen BK197.out 2
        have hfz7_3 := blk_frozen BK197.out 3
        have hfz7_4 := blk_frozen BK197.out 4
        have hfz7_5 := blk_frozen BK197.out 5
        have hfz7_6 := blk_frozen BK197.out 6
        have hfz7_7 := blk_frozen BK197.out 7
        have hfz7_8 := blk_frozen BK197.out 8
        have hfz7_9 := blk_frozen BK197.out 9
        have hfz7_10 := blk_frozen BK197.out 10
        have hfz7_11 := blk_frozen BK197.out 11
        go_wp2
        go_meet
        case rel => exact ⟨_, (true), (by first | rfl | (simp; done) | (simp [*]; done)), H', ⟨by first | omega | exact Nat.le_refl _⟩, ⟨by (with_reducible repeat (first | refine blk_drewN ?_ _ | refine blk_drew ?_ | refine blk_alloc ?_ _)); exact BK197.out⟩, ⟨by repeat (first | (with_reducible first | exact HB.out | apply below_alloc | apply pw_below_drewN | apply below_drew1 | refine below_set ?_ GE197.out) | exact HB.out)⟩⟩
      · rw [if_neg c6] at H
        have c6b0 : decide (a0_6 < a0_5) = false := decide_eq_false c6
        clear c6
        have H' := Aside0.mk H
        clear H
        have hcz8_0 : w3.cell? ⟨gb197, 0, none⟩ = some (.int .i64 a0_0) := (blk_cell BK197.out 0).trans rfl
        have hcz8_1 : w3.cell? ⟨gb197, 1, none⟩ = some (.slice A0_1 l0_1.length c0_1) := (blk_cell BK197.out 1).trans rfl
        have hcz8_2 : w3.cell? ⟨gb197, 2, none⟩ = some (.slice A0_2 l0_2.length c0_2) := (blk_cell BK197.out 2).trans rfl
        have hcz8_3 : w3.cell? ⟨gb197, 3, none⟩ = some (.slice A0_3 l0_3.length c0_3) := (blk_cell BK197.out 3).trans rfl
        have hcz8_4 : w3.cell? ⟨gb197, 4, none⟩ = some (.slice A0_4 l0_4.length c0_4) := (blk_cell BK197.out 4).trans rfl
        have hcz8_5 : w3.cell? ⟨gb197, 5, none⟩ = some (.int .i64 a0_5) := (blk_cell BK197.out 5).trans rfl
        have hcz8_6 : w3.cell? ⟨gb197, 6, none⟩ = some (.int .i64 a0_6) := (blk_cell BK197.out 6).trans rfl
        have hcz8_7 : w3.cell? ⟨gb197, 7, none⟩ = some (.int .i64 a0_7) := (blk_cell BK197.out 7).trans rfl
        have hcz8_8 : w3.cell? ⟨gb197, 8, none⟩ = some (.int .i64 a0_8) := (blk_cell BK197.out 8).trans rfl
        have hcz8_9 : w3.cell? ⟨gb197, 9, none⟩ = some (.int .i64 a0_9) := (blk_cell BK197.out 9).trans rfl
        have hcz8_10 : w3.cell? ⟨gb197, 10, none⟩ = some (.int .i64 a0_10) := (blk_cell BK197.out 10).trans rfl
        have hcz8_11 : w3.cell? ⟨gb197, 11, none⟩ = some (.int .i64 a0_11) := (blk_cell BK197.out 11).trans rfl
        have hfz8_0 := blk_frozen BK197.out 0
        have hfz8_1 := blk_frozen BK197.out 1
        have hfz8_2 := blk_frozen BK197.out 2
        have hfz8_3 := blk_frozen BK197.out 3
        have hfz8_4 := blk_frozen BK197.out 4
        have hfz8_5 := blk_frozen BK197.out 5
        have hfz8_6 := blk_frozen BK197.out 6
        have hfz8_7 := blk_frozen BK197.out 7
        have hfz8_8 := blk_frozen BK197.out 8
        have hfz8_9 := blk_frozen BK197.out 9
        have hfz8_10 := blk_frozen BK197.out 10
        have hfz8_11 := blk_frozen BK197.out 11
        go_wp2
        go_meet
        case rel => exact ⟨_, (decide (a0_6 > 1048576)), (by first | rfl | (simp; done) | (simp [*]; done)), H', ⟨by first | omega | exact Nat.le_refl _⟩, ⟨by (with_reducible repeat (first | refine blk_drewN ?_ _ | refine blk_drew ?_ | refine blk_alloc ?_ _)); exact BK197.out⟩, ⟨by repeat (first | (with_reducible first | exact HB.out | apply below_alloc | apply pw_below_drewN | apply below_drew1 | refine below_set ?_ GE197.out) | exact HB.out)⟩⟩
  case rest =>
    clear HC2
    try clear p2
    try clear c4
    try clear c4b0
    try clear c5
    try clear c6
    try clear c6b0
    try clear hcz5_0
    try clear hcz5_1
    try clear hcz5_10
    try clear hcz5_11
    try clear hcz5_2
    try clear hcz5_3
    try clear hcz5_4
    try clear hcz5_5
    try clear hcz5_6
    try clear hcz5_7
    try clear hcz5_8
    try clear hcz5_9
    try clear hcz7_0
    try clear hcz7_1
    try clear hcz7_10
    try clear hcz7_11
    try clear hcz7_2
    try clear hcz7_3
    try clear hcz7_4
    try clear hcz7_5
    try clear hcz7_6
    try clear hcz7_7
    try clear hcz7_8
    try clear hcz7_9
    try clear hcz8_0
    try clear hcz8_1
    try clear hcz8_10
    try clear hcz8_11
    try clear hcz8_2
    try clear hcz8_3
    try clear hcz8_4
    try clear hcz8_5
    try clear hcz8_6
    try clear hcz8_7
    try clear hcz8_8
    try clear hcz8_9
    try clear hfz5_0
    try clear hfz5_1
    try clear hfz5_10
    try clear hfz5_11
    try clear hfz5_2
    try clear hfz5_3
    try clear hfz5_4
    try clear hfz5_5
    try clear hfz5_6
    try clear hfz5_7
    try clear hfz5_8
    try clear hfz5_9
    try clear hfz7_0
    try clear hfz7_1
    try clear hfz7_10
    try clear hfz7_11
    try clear hfz7_2
    try clear hfz7_3
    try clear hfz7_4
    try clear hfz7_5
    try clear hfz7_6
    try clear hfz7_7
    try clear hfz7_8
    try clear hfz7_9
    try clear hfz8_0
    try clear hfz8_1
    try clear hfz8_10
    try clear hfz8_11
    try clear hfz8_2
    try clear hfz8_3
    try clear hfz8_4
    try clear hfz8_5
    try clear hfz8_6
    try clear hfz8_7
    try clear hfz8_8
    try clear hfz8_9
    obtain ⟨kq, x3_1, rfl, HA, HJ1, BK197, HB⟩ := hcut
    cases kq with
    | zero => exact absurd HA.out (by simp [simulate_Config_checkRest.j0])
    | succ kj1 =>
      have H := HA.out
      clear HA
      simp only [simulate_Config_checkRest.j0] at H
      by_cases c9 : x3_1 = true
      · subst c9
        have H1 : (some 32) = some r := by rw [if_pos rfl] at H; exact H
        clear H
        have H := H1
        clear H1
        obtain rfl := Option.some.inj H
        go_wp2
        go_ret
        exact ⟨by first | rfl | (simp [errW_none, errW_some] <;> rfl) | (simp [*, errW_none, errW_some] <;> rfl), by repeat (first | (with_reducible first | exact HB.out | apply below_alloc | apply pw_below_drewN | apply below_drew1 | refine below_set ?_ GE197.out) | exact HB.out)⟩
      · replace c9 := Bool.eq_false_iff.mpr c9
        subst c9
        have H1 : (if (wrap64 (a0_6 - a0_5)) > 64 then (some 6) else ((simulate_outside.f a0_7 0 16).bind fun t198 => (if t198 = true then (simulate_Config_checkRest.j1 kj1 true a0_0 l0_1 l0_2 l0_3 l0_4 a0_5 a0_6 a0_7 a0_8 a0_9 a0_10 a0_11) else ((simulate_outside.f a0_8 0 1048576).bind fun t199 => (if t199 = true then (simulate_Config_checkRest.j1 kj1 true a0_0 l0_1 l0_2 l0_3 l0_4 a0_5 a0_6 a0_7 a0_8 a0_9 a0_10 a0_11) else ((simulate_outside.f a0_9 1 64).bind fun t200 => (if t200 = true then (simulate_Config_checkRest.j1 kj1 true a0_0 l0_1 l0_2 l0_3 l0_4 a0_5 a0_6 a0_7 a0_8 a0_9 a0_10 a0_11) else ((simulate_outside.f a0_10 0 1000000).bind fun t201 => (if t201 = true then (simulate_Config_checkRest.j1 kj1 true a0_0 l0_1 l0_2 l0_3 l0_4 a0_5 a0_6 a0_7 a0_8 a0_9 a0_10 a0_11) else ((simulate_outside.f a0_11 0 1000000).bind fun t202 => (simulate_Config_checkRest.j1 kj1 t202 a0_0 l0_1 l0_2 l0_3 l0_4 a0_5 a0_6 a0_7 a0_8 a0_9 a0_10 a0_11))))))))))) = some r := by rw [if_neg (show ¬ (false = true) by decide)] at H; exact H
        clear H
        have H := H1
        clear H1
        by_cases c10 : (wrap64 (a0_6 - a0_5)) > 64
        · rw [if_pos c10] at H
          have c10b0 : decide (64 < (wrap64 (a0_6 - a0_5))) = true := decide_eq_true c10
          clear c10
          obtain rfl := Option.some.inj H
          have hcz11_0 : wc.cell? ⟨gb197, 0, none⟩ = some (.int .i64 a0_0) := (blk_cell BK197.out 0).trans rfl
          have hcz11_1 : wc.cell? ⟨gb197, 1, none⟩ = some (.slice A0_1 l0_1.length c0_1) := (blk_cell BK197.out 1).trans rfl
          have hcz11_2 : wc.cell? ⟨gb197, 2, none⟩ = some (.slice A0_2 l0_2.length c0_2) := (blk_cell BK197.out 2).trans rfl
          have hcz11_3 : wc.cell? ⟨gb197, 3, none⟩ = some (.slice A0_3 l0_3.length c0_3) := (blk_cell BK197.out 3).trans rfl
          have hcz11_4 : wc.cell? ⟨gb197, 4, none⟩ = some (.slice A0_4 l0_4.length c0_4) := (blk_cell BK197.out 4).trans rfl
          have hcz11_5 : wc.cell? ⟨gb197, 5, none⟩ = some (.int .i64 a0_5) := (blk_cell BK197.out 5).trans rfl
          have hcz11_6 : wc.cell? ⟨gb197, 6, none⟩ = some (.int .i64 a0_6) := (blk_cell BK197.out 6).trans rfl
          have hcz11_7 : wc.cell? ⟨gb197, 7, none⟩ = some (.int .i64 a0_7) := (blk_cell BK197.out 7).trans rfl
          have hcz11_8 : wc.cell? ⟨gb197, 8, none⟩ = some (.int .i64 a0_8) := (blk_cell BK197.out 8).trans rfl
          have hcz11_9 : wc.cell? ⟨gb197, 9, none⟩ = some (.int .i64 a0_9) := (blk_cell BK197.out 9).trans rfl
          have hcz11_10 : wc.cell? ⟨gb197, 10, none⟩ = some (.int .i64 a0_10) := (blk_cell BK197.out 10).trans rfl
          have hcz11_11 : wc.cell? ⟨gb197, 11, none⟩ = some (.int .i64 a0_11) := (blk_cell BK197.out 11).trans rfl
          have hfz11_0 := blk_frozen BK197.out 0
          have hfz11_1 := blk_frozen BK197.out 1
          have hfz11_2 := blk_frozen BK197.out 2
          have hfz11_3 := blk_frozen BK197.out 3
          have hfz11_4 := blk_frozen BK197.out 4
          have hfz11_5 := blk_frozen BK197.out 5
          have hfz11_6 := blk_frozen BK197.out 6
          have hfz11_7 := blk_frozen BK197.out 7
          have hfz11_8 := blk_frozen BK197.out 8
          have hfz11_9 := blk_frozen BK197.out 9
          have hfz11_10 := blk_frozen BK197.out 10
          have hfz11_11 := blk_frozen BK197.out 11
          go_wp2
          go_ret
          exact ⟨by first | rfl | (simp [errW_none, errW_some] <;> rfl) | (simp [*, errW_none, errW_some] <;> rfl), by repeat (first | (with_reducible first | exact HB.out | apply below_alloc | apply pw_below_drewN | apply below_drew1 | refine below_set ?_ GE197.out) | exact HB.out)⟩
        · rw [if_neg c10] at H
          have c10b0 : decide (64 < (wrap64 (a0_6 - a0_5))) = false := decide_eq_false c10
          clear c10
          have HC12 := Aside0.mk H
          clear H
          have hcz13_0 : wc.cell? ⟨gb197, 0, none⟩ = some (.int .i64 a0_0) := (blk_cell BK197.out 0).trans rfl
          have hcz13_1 : wc.cell? ⟨gb197, 1, none⟩ = some (.slice A0_1 l0_1.length c0_1) := (blk_cell BK197.out 1).trans rfl
          have hcz13_2 : wc.cell? ⟨gb197, 2, none⟩ = some (.slice A0_2 l0_2.length c0_2) := (blk_cell BK197.out 2).trans rfl
          have hcz13_3 : wc.cell? ⟨gb197, 3, none⟩ = some (.slice A0_3 l0_3.length c0_3) := (blk_cell BK197.out 3).trans rfl
          have hcz13_4 : wc.cell? ⟨gb197, 4, none⟩ = some (.slice A0_4 l0_4.length c0_4) := (blk_cell BK197.out 4).trans rfl
          have hcz13_5 : wc.cell? ⟨gb197, 5, none⟩ = some (.int .i64 a0_5) := (blk_cell BK197.out 5).trans rfl
          have hcz13_6 : wc.cell? ⟨gb197, 6, none⟩ = some (.int .i64 a0_6) := (blk_cell BK197.out 6).trans rfl
          have hcz13_7 : wc.cell? ⟨gb197, 7, none⟩ = some (.int .i64 a0_7) := (blk_cell BK197.out 7).trans rfl
          have hcz13_8 : wc.cell? ⟨gb197, 8, none⟩ = some (.int .i64 a0_8) := (blk_cell BK197.out 8).trans rfl
          have hcz13_9 : wc.cell? ⟨gb197, 9, none⟩ = some (.int .i64 a0_9) := (blk_cell BK197.out 9).trans rfl
          have hcz13_10 : wc.cell? ⟨gb197, 10, none⟩ = some (.int .i64 a0_10) := (blk_cell BK197.out 10).trans rfl
          have hcz13_11 : wc.cell? ⟨gb197, 11, none⟩ = some (.int .i64 a0_11) := (blk_cell BK197.out 11).trans rfl
          have hfz13_0 := blk_frozen BK197.out 0
          have hfz13_1 := blk_frozen BK197.out 1
          have hfz13_2 := blk_frozen BK197.out 2
          have hfz13_3 := blk_frozen BK197.out 3
          have hfz13_4 := blk_frozen BK197.out 4
          have hfz13_5 := blk_frozen BK197.out 5
          have hfz13_6 := blk_frozen BK197.out 6
          have hfz13_7 := blk_frozen BK197.out 7
          have hfz13_8 := blk_frozen BK197.out 8
          have hfz13_9 := blk_frozen BK197.out 9
          have hfz13_10 := blk_frozen BK197.out 10
          have hfz13_11 := blk_frozen BK197.out 11
          go_upto_region 5 with (fail)
          go_cut [32] (fun v32 wc => ∃ (kq : Nat) (x32_11 : Bool), v32 = .bool x32_11 ∧ Aside0 (simulate_Config_checkRest.j1 kq x32_11 a0_0 l0_1 l0_2 l0_3 l0_4 a0_5 a0_6 a0_7 a0_8 a0_9 a0_10 a0_11 = some r) ∧ Aside0 (kq ≤ kj1) ∧ Aside0 (wc.heap[gb197]? = some (.cells #[.int .i64 a0_0, (.slice A0_1 l0_1.length c0_1), (.slice A0_2 l0_2.length c0_2), (.slice A0_3 l0_3.length c0_3), (.slice A0_4 l0_4.length c0_4), .int .i64 a0_5, .int .i64 a0_6, .int .i64 a0_7, .int .i64 a0_8, .int .i64 a0_9, .int .i64 a0_10, .int .i64 a0_11] 31 (0, 0))) ∧ Aside0 (Below w.heap.size w wc))
          case first =>
            have H := HC12.out
            clear HC12
            replace H := Option.bind_eq_some_iff.mp H
            obtain ⟨t198, A140, H⟩ := H
            replace H : (if t198 = true then (simulate_Config_checkRest.j1 kj1 true a0_0 l0_1 l0_2 l0_3 l0_4 a0_5 a0_6 a0_7 a0_8 a0_9 a0_10 a0_11) else ((simulate_outside.f a0_8 0 1048576).bind fun t199 => (if t199 = true then (simulate_Config_checkRest.j1 kj1 true a0_0 l0_1 l0_2 l0_3 l0_4 a0_5 a0_6 a0_7 a0_8 a0_9 a0_10 a0_11) else ((simulate_outside.f a0_9 1 64).bind fun t200 => (if t200 = true then (simulate_Config_checkRest.j1 kj1 true a0_0 l0_1 l0_2 l0_3 l0_4 a0_5 a0_6 a0_7 a0_8 a0_9 a0_10 a0_11) else ((simulate_outside.f a0_10 0 1000000).bind fun t201 => (if t201 = true then (simulate_Config_checkRest.j1 kj1 true a0_0 l0_1 l0_2 l0_3 l0_4 a0_5 a0_6 a0_7 a0_8 a0_9 a0_10 a0_11) else ((simulate_outside.f a0_11 0 1000000).bind fun t202 => (simulate_Config_checkRest.j1 kj1 t202 a0_0 l0_1 l0_2 l0_3 l0_4 a0_5 a0_6 a0_7 a0_8 a0_9 a0_10 a0_11))))))))) = some r := H
            have A14 := Aside0.mk A140
            clear A140
            by_cases c15 : t198 = true
            · subst c15
              have H1 : (simulate_Config_checkRest.j1 kj1 true a0_0 l0_1 l0_2 l0_3 l0_4 a0_5 a0_6 a0_7 a0_8 a0_9 a0_10 a0_11) = some r := by rw [if_pos rfl] at H; exact H
              clear H
              have H := H1
              clear H1
              have H' := Aside0.mk H
              clear H
              have hcz16_0 : wc.cell? ⟨gb197, 0, none⟩ = some (.int .i64 a0_0) := (blk_cell BK197.out 0).trans rfl
              have hcz16_1 : wc.cell? ⟨gb197, 1, none⟩ = some (.slice A0_1 l0_1.length c0_1) := (blk_cell BK197.out 1).trans rfl
              have hcz16_2 : wc.cell? ⟨gb197, 2, none⟩ = some (.slice A0_2 l0_2.length c0_2) := (blk_cell BK197.out 2).trans rfl
              have hcz16_3 : wc.cell? ⟨gb197, 3, none⟩ = some (.slice A0_3 l0_3.length c0_3) := (blk_cell BK197.out 3).trans rfl
              have hcz16_4 : wc.cell? ⟨gb197, 4, none⟩ = some (.slice A0_4 l0_4.length c0_4) := (blk_cell BK197.out 4).trans rfl
              have hcz16_5 : wc.cell? ⟨gb197, 5, none⟩ = some (.int .i64 a0_5) := (blk_cell BK197.out 5).trans rfl
              have hcz16_6 : wc.cell? ⟨gb197, 6, none⟩ = some (.int .i64 a0_6) := (blk_cell BK197.out 6).trans rfl
              have hcz16_7 : wc.cell? ⟨gb197, 7, none⟩ = some (.int .i64 a0_7) := (blk_cell BK197.out 7).trans rfl
              have hcz16_8 : wc.cell? ⟨gb197, 8, none⟩ = some (.int .i64 a0_8) := (blk_cell BK197.out 8).trans rfl
              have hcz16_9 : wc.cell? ⟨gb197, 9, none⟩ = some (.int .i64 a0_9) := (blk_cell BK197.out 9).trans rfl
              have hcz16_10 : wc.cell? ⟨gb197, 10, none⟩ = some (.int .i64 a0_10) := (blk_cell BK197.out 10).trans rfl
              have hcz16_11 : wc.cell? ⟨gb197, 11, none⟩ = some (.int .i64 a0_11) := (blk_cell BK197.out 11).trans rfl
              have hfz16_0 := blk_frozen BK197.out 0
              have hfz16_1 := blk_frozen BK197.out 1
              have hfz16_2 := blk_frozen BK197.out 2
              have hfz16_3 := blk_frozen BK197.out 3
              have hfz16_4 := blk_frozen BK197.out 4
              have hfz16_5 := blk_frozen BK197.out 5
              have hfz16_6 := blk_frozen BK197.out 6
              have hfz16_7 := blk_frozen BK197.out 7
              have hfz16_8 := blk_frozen BK197.out 8
              have hfz16_9 := blk_frozen BK197.out 9
              have hfz16_10 := blk_frozen BK197.out 10
              have hfz16_11 := blk_frozen BK197.out 11
              go_wp2_with (first | ((with_reducible refine gate_callee (f := 52) rfl ?_); refine goesL_ (some 35) rfl rfl Try.func52 (by kernel_rfl) rfl #[.int .i64 a0_7, .int .i64 0, .int .i64 16] rfl (by (try simp only [List.map_toArray, List.map_cons, List.map_nil]); first | done | rfl | (simp only [List.length_drop, List.length_take]; rfl)) ?_; (with_reducible refine (simulate_outside.calls a0_7 0 16 true _ A14.out).mono ?_); rintro e w' ⟨rfl, ⟨nd, rfl⟩⟩; refine ⟨_, rfl, ?_⟩))
              go_meet
              case rel => exact ⟨_, (true), (by first | rfl | (simp; done) | (simp [*]; done)), H', ⟨by have := HJ1.out; first | omega | exact Nat.le_refl _⟩, ⟨by (with_reducible repeat (first | refine blk_drewN ?_ _ | refine blk_drew ?_ | refine blk_alloc ?_ _)); exact BK197.out⟩, ⟨by repeat (first | (with_reducible first | exact HB.out | apply below_alloc | apply pw_below_drewN | apply below_drew1 | refine below_set ?_ GE197.out) | exact HB.out)⟩⟩
            · replace c15 := Bool.eq_false_iff.mpr c15
              subst c15
              have H1 : ((simulate_outside.f a0_8 0 1048576).bind fun t199 => (if t199 = true then (simulate_Config_checkRest.j1 kj1 true a0_0 l0_1 l0_2 l0_3 l0_4 a0_5 a0_6 a0_7 a0_8 a0_9 a0_10 a0_11) else ((simulate_outside.f a0_9 1 64).bind fun t200 => (if t200 = true then (simulate_Config_checkRest.j1 kj1 true a0_0 l0_1 l0_2 l0_3 l0_4 a0_5 a0_6 a0_7 a0_8 a0_9 a0_10 a0_11) else ((simulate_outside.f a0_10 0 1000000).bind fun t201 => (if t201 = true then (simulate_Config_checkRest.j1 kj1 true a0_0 l0_1 l0_2 l0_3 l0_4 a0_5 a0_6 a0_7 a0_8 a0_9 a0_10 a0_11) else ((simulate_outside.f a0_11 0 1000000).bind fun t202 => (simulate_Config_checkRest.j1 kj1 t202 a0_0 l0_1 l0_2 l0_3 l0_4 a0_5 a0_6 a0_7 a0_8 a0_9 a0_10 a0_11)))))))) = some r := by rw [if_neg (show ¬ (false = true) by decide)] at H; exact H
              clear H
              have H := H1
              clear H1
              replace H := Option.bind_eq_some_iff.mp H
              obtain ⟨t199, A170, H⟩ := H
              replace H : (if t199 = true then (simulate_Config_checkRest.j1 kj1 true a0_0 l0_1 l0_2 l0_3 l0_4 a0_5 a0_6 a0_7 a0_8 a0_9 a0_10 a0_11) else ((simulate_outside.f a0_9 1 64).bind fun t200 => (if t200 = true then (simulate_Config_checkRest.j1 kj1 true a0_0 l0_1 l0_2 l0_3 l0_4 a0_5 a0_6 a0_7 a0_8 a0_9 a0_10 a0_11) else ((simulate_outside.f a0_10 0 1000000).bind fun t201 => (if t201 = true then (simulate_Config_checkRest.j1 kj1 true a0_0 l0_1 l0_2 l0_3 l0_4 a0_5 a0_6 a0_7 a0_8 a0_9 a0_10 a0_11) else ((simulate_outside.f a0_11 0 1000000).bind fun t202 => (simulate_Config_checkRest.j1 kj1 t202 a0_0 l0_1 l0_2 l0_3 l0_4 a0_5 a0_6 a0_7 a0_8 a0_9 a0_10 a0_11))))))) = some r := H
              have A17 := Aside0.mk A170
              clear A170
              by_cases c18 : t199 = true
              · subst c18
                have H1 : (simulate_Config_checkRest.j1 kj1 true a0_0 l0_1 l0_2 l0_3 l0_4 a0_5 a0_6 a0_7 a0_8 a0_9 a0_10 a0_11) = some r := by rw [if_pos rfl] at H; exact H
                clear H
                have H := H1
                clear H1
                have H' := Aside0.mk H
                clear H
                have hcz19_0 : wc.cell? ⟨gb197, 0, none⟩ = some (.int .i64 a0_0) := (blk_cell BK197.out 0).trans rfl
                have hcz19_1 : wc.cell? ⟨gb197, 1, none⟩ = some (.slice A0_1 l0_1.length c0_1) := (blk_cell BK197.out 1).trans rfl
                have hcz19_2 : wc.cell? ⟨gb197, 2, none⟩ = some (.slice A0_2 l0_2.length c0_2) := (blk_cell BK197.out 2).trans rfl
                have hcz19_3 : wc.cell? ⟨gb197, 3, none⟩ = some (.slice A0_3 l0_3.length c0_3) := (blk_cell BK197.out 3).trans rfl
                have hcz19_4 : wc.cell? ⟨gb197, 4, none⟩ = some (.slice A0_4 l0_4.length c0_4) := (blk_cell BK197.out 4).trans rfl
                have hcz19_5 : wc.cell? ⟨gb197, 5, none⟩ = some (.int .i64 a0_5) := (blk_cell BK197.out 5).trans rfl
                have hcz19_6 : wc.cell? ⟨gb197, 6, none⟩ = some (.int .i64 a0_6) := (blk_cell BK197.out 6).trans rfl
                have hcz19_7 : wc.cell? ⟨gb197, 7, none⟩ = some (.int .i64 a0_7) := (blk_cell BK197.out 7).trans rfl
                have hcz19_8 : wc.cell? ⟨gb197, 8, none⟩ = some (.int .i64 a0_8) := (blk_cell BK197.out 8).trans rfl
                have hcz19_9 : wc.cell? ⟨gb197, 9, none⟩ = some (.int .i64 a0_9) := (blk_cell BK197.out 9).trans rfl
                have hcz19_10 : wc.cell? ⟨gb197, 10, none⟩ = some (.int .i64 a0_10) := (blk_cell BK197.out 10).trans rfl
                have hcz19_11 : wc.cell? ⟨gb197, 11, none⟩ = some (.int .i64 a0_11) := (blk_cell BK197.out 11).trans rfl
                have hfz19_0 := blk_frozen BK197.out 0
                have hfz19_1 := blk_frozen BK197.out 1
                have hfz19_2 := blk_frozen BK197.out 2
                have hfz19_3 := blk_frozen BK197.out 3
                have hfz19_4 := blk_frozen BK197.out 4
                have hfz19_5 := blk_frozen BK197.out 5
                have hfz19_6 := blk_frozen BK197.out 6
                have hfz19_7 := blk_frozen BK197.out 7
                have hfz19_8 := blk_frozen BK197.out 8
                have hfz19_9 := blk_frozen BK197.out 9
                have hfz19_10 := blk_frozen BK197.out 10
                have hfz19_11 := blk_frozen BK197.out 11
                go_wp2_with (first | ((with_reducible refine gate_callee (f := 52) rfl ?_); refine goesL_ (some 35) rfl rfl Try.func52 (by kernel_rfl) rfl #[.int .i64 a0_7, .int .i64 0, .int .i64 16] rfl (by (try simp only [List.map_toArray, List.map_cons, List.map_nil]); first | done | rfl | (simp only [List.length_drop, List.length_take]; rfl)) ?_; (with_reducible refine (simulate_outside.calls a0_7 0 16 false _ A14.out).mono ?_); rintro e w' ⟨rfl, ⟨nd, rfl⟩⟩; refine ⟨_, rfl, ?_⟩) | (go_at_call 52; (with_reducible refine (simulate_outside.calls a0_8 0 1048576 true _ A17.out).mono ?_); rintro e w' ⟨rfl, ⟨nd, rfl⟩⟩))
                go_meet
                case rel => exact ⟨_, (true), (by first | rfl | (simp; done) | (simp [*]; done)), H', ⟨by have := HJ1.out; first | omega | exact Nat.le_refl _⟩, ⟨by (with_reducible repeat (first | refine blk_drewN ?_ _ | refine blk_drew ?_ | refine blk_alloc ?_ _)); exact BK197.out⟩, ⟨by repeat (first | (with_reducible first | exact HB.out | apply below_alloc | apply pw_below_drewN | apply below_drew1 | refine below_set ?_ GE197.out) | exact HB.out)⟩⟩
              · replace c18 := Bool.eq_false_iff.mpr c18
                subst c18
                have H1 : ((simulate_outside.f a0_9 1 64).bind fun t200 => (if t200 = true then (simulate_Config_checkRest.j1 kj1 true a0_0 l0_1 l0_2 l0_3 l0_4 a0_5 a0_6 a0_7 a0_8 a0_9 a0_10 a0_11) else ((simulate_outside.f a0_10 0 1000000).bind fun t201 => (if t201 = true then (simulate_Config_checkRest.j1 kj1 true a0_0 l0_1 l0_2 l0_3 l0_4 a0_5 a0_6 a0_7 a0_8 a0_9 a0_10 a0_11) else ((simulate_outside.f a0_11 0 1000000).bind fun t202 => (simulate_Config_checkRest.j1 kj1 t202 a0_0 l0_1 l0_2 l0_3 l0_4 a0_5 a0_6 a0_7 a0_8 a0_9 a0_10 a0_11)))))) = some r := by rw [if_neg (show ¬ (false = true) by decide)] at H; exact H
                clear H
                have H := H1
                clear H1
                replace H := Option.bind_eq_some_iff.mp H
                obtain ⟨t200, A200, H⟩ := H
                replace H : (if t200 = true then (simulate_Config_checkRest.j1 kj1 true a0_0 l0_1 l0_2 l0_3 l0_4 a0_5 a0_6 a0_7 a0_8 a0_9 a0_10 a0_11) else ((simulate_outside.f a0_10 0 1000000).bind fun t201 => (if t201 = true then (simulate_Config_checkRest.j1 kj1 true a0_0 l0_1 l0_2 l0_3 l0_4 a0_5 a0_6 a0_7 a0_8 a0_9 a0_10 a0_11) else ((simulate_outside.f a0_11 0 1000000).bind fun t202 => (simulate_Config_checkRest.j1 kj1 t202 a0_0 l0_1 l0_2 l0_3 l0_4 a0_5 a0_6 a0_7 a0_8 a0_9 a0_10 a0_11))))) = some r := H
                have A20 := Aside0.mk A200
                clear A200
                by_cases c21 : t200 = true
                · subst c21
                  have H1 : (simulate_Config_checkRest.j1 kj1 true a0_0 l0_1 l0_2 l0_3 l0_4 a0_5 a0_6 a0_7 a0_8 a0_9 a0_10 a0_11) = some r := by rw [if_pos rfl] at H; exact H
                  clear H
                  have H := H1
                  clear H1
                  have H' := Aside0.mk H
                  clear H
                  have hcz22_0 : wc.cell? ⟨gb197, 0, none⟩ = some (.int .i64 a0_0) := (blk_cell BK197.out 0).trans rfl
                  have hcz22_1 : wc.cell? ⟨gb197, 1, none⟩ = some (.slice A0_1 l0_1.length c0_1) := (blk_cell BK197.out 1).trans rfl
                  have hcz22_2 : wc.cell? ⟨gb197, 2, none⟩ = some (.slice A0_2 l0_2.length c0_2) := (blk_cell BK197.out 2).trans rfl
                  have hcz22_3 : wc.cell? ⟨gb197, 3, none⟩ = some (.slice A0_3 l0_3.length c0_3) := (blk_cell BK197.out 3).trans rfl
                  have hcz22_4 : wc.cell? ⟨gb197, 4, none⟩ = some (.slice A0_4 l0_4.length c0_4) := (blk_cell BK197.out 4).trans rfl
                  have hcz22_5 : wc.cell? ⟨gb197, 5, none⟩ = some (.int .i64 a0_5) := (blk_cell BK197.out 5).trans rfl
                  have hcz22_6 : wc.cell? ⟨gb197, 6, none⟩ = some (.int .i64 a0_6) := (blk_cell BK197.out 6).trans rfl
                  have hcz22_7 : wc.cell? ⟨gb197, 7, none⟩ = some (.int .i64 a0_7) := (blk_cell BK197.out 7).trans rfl
                  have hcz22_8 : wc.cell? ⟨gb197, 8, none⟩ = some (.int .i64 a0_8) := (blk_cell BK197.out 8).trans rfl
                  have hcz22_9 : wc.cell? ⟨gb197, 9, none⟩ = some (.int .i64 a0_9) := (blk_cell BK197.out 9).trans rfl
                  have hcz22_10 : wc.cell? ⟨gb197, 10, none⟩ = some (.int .i64 a0_10) := (blk_cell BK197.out 10).trans rfl
                  have hcz22_11 : wc.cell? ⟨gb197, 11, none⟩ = some (.int .i64 a0_11) := (blk_cell BK197.out 11).trans rfl
                  have hfz22_0 := blk_frozen BK197.out 0
                  have hfz22_1 := blk_frozen BK197.out 1
                  have hfz22_2 := blk_frozen BK197.out 2
                  have hfz22_3 := blk_frozen BK197.out 3
                  have hfz22_4 := blk_frozen BK197.out 4
                  have hfz22_5 := blk_frozen BK197.out 5
                  have hfz22_6 := blk_frozen BK197.out 6
                  have hfz22_7 := blk_frozen BK197.out 7
                  have hfz22_8 := blk_frozen BK197.out 8
                  have hfz22_9 := blk_frozen BK197.out 9
                  have hfz22_10 := blk_frozen BK197.out 10
                  have hfz22_11 := blk_frozen BK197.out 11
                  go_wp2_with (first | ((with_reducible refine gate_callee (f := 52) rfl ?_); refine goesL_ (some 35) rfl rfl Try.func52 (by kernel_rfl) rfl #[.int .i64 a0_7, .int .i64 0, .int .i64 16] rfl (by (try simp only [List.map_toArray, List.map_cons, List.map_nil]); first | done | rfl | (simp only [List.length_drop, List.length_take]; rfl)) ?_; (with_reducible refine (simulate_outside.calls a0_7 0 16 false _ A14.out).mono ?_); rintro e w' ⟨rfl, ⟨nd, rfl⟩⟩; refine ⟨_, rfl, ?_⟩) | (go_at_call 52; (with_reducible refine (simulate_outside.calls a0_8 0 1048576 false _ A17.out).mono ?_); rintro e w' ⟨rfl, ⟨nd, rfl⟩⟩) | (go_at_call 52; (with_reducible refine (simulate_outside.calls a0_9 1 64 true _ A20.out).mono ?_); rintro e w' ⟨rfl, ⟨nd, rfl⟩⟩))
                  go_meet
                  case rel => exact ⟨_, (true), (by first | rfl | (simp; done) | (simp [*]; done)), H', ⟨by have := HJ1.out; first | omega | exact Nat.le_refl _⟩, ⟨by (with_reducible repeat (first | refine blk_drewN ?_ _ | refine blk_drew ?_ | refine blk_alloc ?_ _)); exact BK197.out⟩, ⟨by repeat (first | (with_reducible first | exact HB.out | apply below_alloc | apply pw_below_drewN | apply below_drew1 | refine below_set ?_ GE197.out) | exact HB.out)⟩⟩
                · replace c21 := Bool.eq_false_iff.mpr c21
                  subst c21
                  have H1 : ((simulate_outside.f a0_10 0 1000000).bind fun t201 => (if t201 = true then (simulate_Config_checkRest.j1 kj1 true a0_0 l0_1 l0_2 l0_3 l0_4 a0_5 a0_6 a0_7 a0_8 a0_9 a0_10 a0_11) else ((simulate_outside.f a0_11 0 1000000).bind fun t202 => (simulate_Config_checkRest.j1 kj1 t202 a0_0 l0_1 l0_2 l0_3 l0_4 a0_5 a0_6 a0_7 a0_8 a0_9 a0_10 a0_11)))) = some r := by rw [if_neg (show ¬ (false = true) by decide)] at H; exact H
                  clear H
                  have H := H1
                  clear H1
                  replace H := Option.bind_eq_some_iff.mp H
                  obtain ⟨t201, A230, H⟩ := H
                  replace H : (if t201 = true then (simulate_Config_checkRest.j1 kj1 true a0_0 l0_1 l0_2 l0_3 l0_4 a0_5 a0_6 a0_7 a0_8 a0_9 a0_10 a0_11) else ((simulate_outside.f a0_11 0 1000000).bind fun t202 => (simulate_Config_checkRest.j1 kj1 t202 a0_0 l0_1 l0_2 l0_3 l0_4 a0_5 a0_6 a0_7 a0_8 a0_9 a0_10 a0_11))) = some r := H
                  have A23 := Aside0.mk A230
                  clear A230
                  by_cases c24 : t201 = true
                  · subst c24
                    have H1 : (simulate_Config_checkRest.j1 kj1 true a0_0 l0_1 l0_2 l0_3 l0_4 a0_5 a0_6 a0_7 a0_8 a0_9 a0_10 a0_11) = some r := by rw [if_pos rfl] at H; exact H
                    clear H
                    have H := H1
                    clear H1
                    have H' := Aside0.mk H
                    clear H
                    have hcz25_0 : wc.cell? ⟨gb197, 0, none⟩ = some (.int .i64 a0_0) := (blk_cell BK197.out 0).trans rfl
                    have hcz25_1 : wc.cell? ⟨gb197, 1, none⟩ = some (.slice A0_1 l0_1.length c0_1) := (blk_cell BK197.out 1).trans rfl
                    have hcz25_2 : wc.cell? ⟨gb197, 2, none⟩ = some (.slice A0_2 l0_2.length c0_2) := (blk_cell BK197.out 2).trans rfl
                    have hcz25_3 : wc.cell? ⟨gb197, 3, none⟩ = some (.slice A0_3 l0_3.length c0_3) := (blk_cell BK197.out 3).trans rfl
                    have hcz25_4 : wc.cell? ⟨gb197, 4, none⟩ = some (.slice A0_4 l0_4.length c0_4) := (blk_cell BK197.out 4).trans rfl
                    have hcz25_5 : wc.cell? ⟨gb197, 5, none⟩ = some (.int .i64 a0_5) := (blk_cell BK197.out 5).trans rfl
                    have hcz25_6 : wc.cell? ⟨gb197, 6, none⟩ = some (.int .i64 a0_6) := (blk_cell BK197.out 6).trans rfl
                    have hcz25_7 : wc.cell? ⟨gb197, 7, none⟩ = some (.int .i64 a0_7) := (blk_cell BK197.out 7).trans rfl
                    have hcz25_8 : wc.cell? ⟨gb197, 8, none⟩ = some (.int .i64 a0_8) := (blk_cell BK197.out 8).trans rfl
                    have hcz25_9 : wc.cell? ⟨gb197, 9, none⟩ = some (.int .i64 a0_9) := (blk_cell BK197.out 9).trans rfl
                    have hcz25_10 : wc.cell? ⟨gb197, 10, none⟩ = some (.int .i64 a0_10) := (blk_cell BK197.out 10).trans rfl
                    have hcz25_11 : wc.cell? ⟨gb197, 11, none⟩ = some (.int .i64 a0_11) := (blk_cell BK197.out 11).trans rfl
                    have hfz25_0 := blk_frozen BK197.out 0
                    have hfz25_1 := blk_frozen BK197.out 1
                    have hfz25_2 := blk_frozen BK197.out 2
                    have hfz25_3 := blk_frozen BK197.out 3
                    have hfz25_4 := blk_frozen BK197.out 4
                    have hfz25_5 := blk_frozen BK197.out 5
                    have hfz25_6 := blk_frozen BK197.out 6
                    have hfz25_7 := blk_frozen BK197.out 7
                    have hfz25_8 := blk_frozen BK197.out 8
                    have hfz25_9 := blk_frozen BK197.out 9
                    have hfz25_10 := blk_frozen BK197.out 10
                    have hfz25_11 := blk_frozen BK197.out 11
                    go_wp2_with (first | ((with_reducible refine gate_callee (f := 52) rfl ?_); refine goesL_ (some 35) rfl rfl Try.func52 (by kernel_rfl) rfl #[.int .i64 a0_7, .int .i64 0, .int .i64 16] rfl (by (try simp only [List.map_toArray, List.map_cons, List.map_nil]); first | done | rfl | (simp only [List.length_drop, List.length_take]; rfl)) ?_; (with_reducible refine (simulate_outside.calls a0_7 0 16 false _ A14.out).mono ?_); rintro e w' ⟨rfl, ⟨nd, rfl⟩⟩; refine ⟨_, rfl, ?_⟩) | (go_at_call 52; (with_reducible refine (simulate_outside.calls a0_8 0 1048576 false _ A17.out).mono ?_); rintro e w' ⟨rfl, ⟨nd, rfl⟩⟩) | (go_at_call 52; (with_reducible refine (simulate_outside.calls a0_9 1 64 false _ A20.out).mono ?_); rintro e w' ⟨rfl, ⟨nd, rfl⟩⟩) | (go_at_call 52; (with_reducible refine (simulate_outside.calls a0_10 0 1000000 true _ A23.out).mono ?_); rintro e w' ⟨rfl, ⟨nd, rfl⟩⟩))
                    go_meet
                    case rel => exact ⟨_, (true), (by first | rfl | (simp; done) | (simp [*]; done)), H', ⟨by have := HJ1.out; first | omega | exact Nat.le_refl _⟩, ⟨by (with_reducible repeat (first | refine blk_drewN ?_ _ | refine blk_drew ?_ | refine blk_alloc ?_ _)); exact BK197.out⟩, ⟨by repeat (first | (with_reducible first | exact HB.out | apply below_alloc | apply pw_below_drewN | apply below_drew1 | refine below_set ?_ GE197.out) | exact HB.out)⟩⟩
                  · replace c24 := Bool.eq_false_iff.mpr c24
                    subst c24
                    have H1 : ((simulate_outside.f a0_11 0 1000000).bind fun t202 => (simulate_Config_checkRest.j1 kj1 t202 a0_0 l0_1 l0_2 l0_3 l0_4 a0_5 a0_6 a0_7 a0_8 a0_9 a0_10 a0_11)) = some r := by rw [if_neg (show ¬ (false = true) by decide)] at H; exact H
                    clear H
                    have H := H1
                    clear H1
                    replace H := Option.bind_eq_some_iff.mp H
                    obtain ⟨t202, A260, H⟩ := H
                    replace H : (simulate_Config_checkRest.j1 kj1 t202 a0_0 l0_1 l0_2 l0_3 l0_4 a0_5 a0_6 a0_7 a0_8 a0_9 a0_10 a0_11) = some r := H
                    have A26 := Aside0.mk A260
                    clear A260
                    have H' := Aside0.mk H
                    clear H
                    have hcz27_0 : wc.cell? ⟨gb197, 0, none⟩ = some (.int .i64 a0_0) := (blk_cell BK197.out 0).trans rfl
                    have hcz27_1 : wc.cell? ⟨gb197, 1, none⟩ = some (.slice A0_1 l0_1.length c0_1) := (blk_cell BK197.out 1).trans rfl
                    have hcz27_2 : wc.cell? ⟨gb197, 2, none⟩ = some (.slice A0_2 l0_2.length c0_2) := (blk_cell BK197.out 2).trans rfl
                    have hcz27_3 : wc.cell? ⟨gb197, 3, none⟩ = some (.slice A0_3 l0_3.length c0_3) := (blk_cell BK197.out 3).trans rfl
                    have hcz27_4 : wc.cell? ⟨gb197, 4, none⟩ = some (.slice A0_4 l0_4.length c0_4) := (blk_cell BK197.out 4).trans rfl
                    have hcz27_5 : wc.cell? ⟨gb197, 5, none⟩ = some (.int .i64 a0_5) := (blk_cell BK197.out 5).trans rfl
                    have hcz27_6 : wc.cell? ⟨gb197, 6, none⟩ = some (.int .i64 a0_6) := (blk_cell BK197.out 6).trans rfl
                    have hcz27_7 : wc.cell? ⟨gb197, 7, none⟩ = some (.int .i64 a0_7) := (blk_cell BK197.out 7).trans rfl
                    have hcz27_8 : wc.cell? ⟨gb197, 8, none⟩ = some (.int .i64 a0_8) := (blk_cell BK197.out 8).trans rfl
                    have hcz27_9 : wc.cell? ⟨gb197, 9, none⟩ = some (.int .i64 a0_9) := (blk_cell BK197.out 9).trans rfl
                    have hcz27_10 : wc.cell? ⟨gb197, 10, none⟩ = some (.int .i64 a0_10) := (blk_cell BK197.out 10).trans rfl
                    have hcz27_11 : wc.cell? ⟨gb197, 11, none⟩ = some (.int .i64 a0_11) := (blk_cell BK197.out 11).trans rfl
                    have hfz27_0 := blk_frozen BK197.out 0
                    have hfz27_1 := blk_frozen BK197.out 1
                    have hfz27_2 := blk_frozen BK197.out 2
                    have hfz27_3 := blk_frozen BK197.out 3
                    have hfz27_4 := blk_frozen BK197.out 4
                    have hfz27_5 := blk_frozen BK197.out 5
                    have hfz27_6 := blk_frozen BK197.out 6
                    have hfz27_7 := blk_frozen BK197.out 7
                    have hfz27_8 := blk_frozen BK197.out 8
                    have hfz27_9 := blk_frozen BK197.out 9
                    have hfz27_10 := blk_frozen BK197.out 10
                    have hfz27_11 := blk_frozen BK197.out 11
                    go_wp2_with (first | ((with_reducible refine gate_callee (f := 52) rfl ?_); refine goesL_ (some 35) rfl rfl Try.func52 (by kernel_rfl) rfl #[.int .i64 a0_7, .int .i64 0, .int .i64 16] rfl (by (try simp only [List.map_toArray, List.map_cons, List.map_nil]); first | done | rfl | (simp only [List.length_drop, List.length_take]; rfl)) ?_; (with_reducible refine (simulate_outside.calls a0_7 0 16 false _ A14.out).mono ?_); rintro e w' ⟨rfl, ⟨nd, rfl⟩⟩; refine ⟨_, rfl, ?_⟩) | (go_at_call 52; (with_reducible refine (simulate_outside.calls a0_8 0 1048576 false _ A17.out).mono ?_); rintro e w' ⟨rfl, ⟨nd, rfl⟩⟩) | (go_at_call 52; (with_reducible refine (simulate_outside.calls a0_9 1 64 false _ A20.out).mono ?_); rintro e w' ⟨rfl, ⟨nd, rfl⟩⟩) | (go_at_call 52; (with_reducible refine (simulate_outside.calls a0_10 0 1000000 false _ A23.out).mono ?_); rintro e w' ⟨rfl, ⟨nd, rfl⟩⟩) | (go_at_call 52; (with_reducible refine (simulate_outside.calls a0_11 0 1000000 t202 _ A26.out).mono ?_); rintro e w' ⟨rfl, ⟨nd, rfl⟩⟩))
                    go_meet
                    case rel => exact ⟨_, (t202), (by first | rfl | (simp; done) | (simp [*]; done)), H', ⟨by have := HJ1.out; first | omega | exact Nat.le_refl _⟩, ⟨by (with_reducible repeat (first | refine blk_drewN ?_ _ | refine blk_drew ?_ | refine blk_alloc ?_ _)); exact BK197.out⟩, ⟨by repeat (first | (with_reducible first | exact HB.out | apply below_alloc | apply pw_below_drewN | apply below_drew1 | refine below_set ?_ GE197.out) | exact HB.out)⟩⟩
          case rest =>
            clear HC12
            try clear c1
            try clear c2
            try clear p2
            try clear c4
            try clear c4b0
            try clear c5
            try clear c6
            try clear c6b0
            try clear p6
            try clear c9
            try clear c10
            try clear c10b0
            try clear c15
            try clear c18
            try clear c21
            try clear c24
            try clear hcz11_0
            try clear hcz11_1
            try clear hcz11_10
            try clear hcz11_11
            try clear hcz11_2
            try clear hcz11_3
            try clear hcz11_4
            try clear hcz11_5
            try clear hcz11_6
            try clear hcz11_7
            try clear hcz11_8
            try clear hcz11_9
            try clear hcz13_0
            try clear hcz13_1
            try clear hcz13_10
            try clear hcz13_11
            try clear hcz13_2
            try clear hcz13_3
            try clear hcz13_4
            try clear hcz13_5
            try clear hcz13_6
            try clear hcz13_7
            try clear hcz13_8
            try clear hcz13_9
            try clear hcz16_0
            try clear hcz16_1
            try clear hcz16_10
            try clear hcz16_11
            try clear hcz16_2
            try clear hcz16_3
            try clear hcz16_4
            try clear hcz16_5
            try clear hcz16_6
            try clear hcz16_7
            try clear hcz16_8
            try clear hcz16_9
            try clear hcz19_0
            try clear hcz19_1
            try clear hcz19_10
            try clear hcz19_11
            try clear hcz19_2
            try clear hcz19_3
            try clear hcz19_4
            try clear hcz19_5
            try clear hcz19_6
            try clear hcz19_7
            try clear hcz19_8
            try clear hcz19_9
            try clear hcz22_0
            try clear hcz22_1
            try clear hcz22_10
            try clear hcz22_11
            try clear hcz22_2
            try clear hcz22_3
            try clear hcz22_4
            try clear hcz22_5
            try clear hcz22_6
            try clear hcz22_7
            try clear hcz22_8
            try clear hcz22_9
            try clear hcz25_0
            try clear hcz25_1
            try clear hcz25_10
            try clear hcz25_11
            try clear hcz25_2
            try clear hcz25_3
            try clear hcz25_4
            try clear hcz25_5
            try clear hcz25_6
            try clear hcz25_7
            try clear hcz25_8
            try clear hcz25_9
            try clear hcz27_0
            try clear hcz27_1
            try clear hcz27_10
            try clear hcz27_11
            try clear hcz27_2
            try clear hcz27_3
            try clear hcz27_4
            try clear hcz27_5
            try clear hcz27_6
            try clear hcz27_7
            try clear hcz27_8
            try clear hcz27_9
            try clear hcz5_0
            try clear hcz5_1
            try clear hcz5_10
            try clear hcz5_11
            try clear hcz5_2
            try clear hcz5_3
            try clear hcz5_4
            try clear hcz5_5
            try clear hcz5_6
            try clear hcz5_7
            try clear hcz5_8
            try clear hcz5_9
            try clear hcz7_0
            try clear hcz7_1
            try clear hcz7_10
            try clear hcz7_11
            try clear hcz7_2
            try clear hcz7_3
            try clear hcz7_4
            try clear hcz7_5
            try clear hcz7_6
            try clear hcz7_7
            try clear hcz7_8
            try clear hcz7_9
            try clear hcz8_0
            try clear hcz8_1
            try clear hcz8_10
            try clear hcz8_11
            try clear hcz8_2
            try clear hcz8_3
            try clear hcz8_4
            try clear hcz8_5
            try clear hcz8_6
            try clear hcz8_7
            try clear hcz8_8
            try clear hcz8_9
            try clear hfz11_0
            try clear hfz11_1
            try clear hfz11_10
            try clear hfz11_11
            try clear hfz11_2
            try clear hfz11_3
            try clear hfz11_4
            try clear hfz11_5
            try clear hfz11_6
            try clear hfz11_7
            try clear hfz11_8
            try clear hfz11_9
            try clear hfz13_0
            try clear hfz13_1
            try clear hfz13_10
            try clear hfz13_11
            try clear hfz13_2
            try clear hfz13_3
            try clear hfz13_4
            try clear hfz13_5
            try clear hfz13_6
            try clear hfz13_7
            try clear hfz13_8
            try clear hfz13_9
            try clear hfz16_0
            try clear hfz16_1
            try clear hfz16_10
            try clear hfz16_11
            try clear hfz16_2
            try clear hfz16_3
            try clear hfz16_4
            try clear hfz16_5
            try clear hfz16_6
            try clear hfz16_7
            try clear hfz16_8
            try clear hfz16_9
            try clear hfz19_0
            try clear hfz19_1
            try clear hfz19_10
            try clear hfz19_11
            try clear hfz19_2
            try clear hfz19_3
            try clear hfz19_4
            try clear hfz19_5
            try clear hfz19_6
            try clear hfz19_7
            try clear hfz19_8
            try clear hfz19_9
            try clear hfz22_0
            try clear hfz22_1
            try clear hfz22_10
            try clear hfz22_11
            try clear hfz22_2
            try clear hfz22_3
            try clear hfz22_4
            try clear hfz22_5
            try clear hfz22_6
            try clear hfz22_7
            try clear hfz22_8
            try clear hfz22_9
            try clear hfz25_0
            try clear hfz25_1
            try clear hfz25_10
            try clear hfz25_11
            try clear hfz25_2
            try clear hfz25_3
            try clear hfz25_4
            try clear hfz25_5
            try clear hfz25_6
            try clear hfz25_7
            try clear hfz25_8
            try clear hfz25_9
            try clear hfz27_0
            try clear hfz27_1
            try clear hfz27_10
            try clear hfz27_11
            try clear hfz27_2
            try clear hfz27_3
            try clear hfz27_4
            try clear hfz27_5
            try clear hfz27_6
            try clear hfz27_7
            try clear hfz27_8
            try clear hfz27_9
            try clear hfz5_0
            try clear hfz5_1
            try clear hfz5_10
            try clear hfz5_11
            try clear hfz5_2
            try clear hfz5_3
            try clear hfz5_4
            try clear hfz5_5
            try clear hfz5_6
            try clear hfz5_7
            try clear hfz5_8
            try clear hfz5_9
            try clear hfz7_0
            try clear hfz7_1
            try clear hfz7_10
            try clear hfz7_11
            try clear hfz7_2
            try clear hfz7_3
            try clear hfz7_4
            try clear hfz7_5
            try clear hfz7_6
            try clear hfz7_7
            try clear hfz7_8
            try clear hfz7_9
            try clear hfz8_0
            try clear hfz8_1
            try clear hfz8_10
            try clear hfz8_11
            try clear hfz8_2
            try clear hfz8_3
            try clear hfz8_4
            try clear hfz8_5
            try clear hfz8_6
            try clear hfz8_7
            try clear hfz8_8
            try clear hfz8_9
            try clear p2
            obtain ⟨kq, x32_11, rfl, HA, HJ11, BK197, HB⟩ := hcut
            cases kq with
            | zero => exact absurd HA.out (by simp [simulate_Config_checkRest.j1])
            | succ kj11 =>
              have H := HA.out
              clear HA
              simp only [simulate_Config_checkRest.j1] at H
              by_cases c28 : x32_11 = true
              · subst c28
                have H1 : (some 2) = some r := by rw [if_pos rfl] at H; exact H
                clear H
                have H := H1
                clear H1
                obtain rfl := Option.some.inj H
                go_wp2
                go_ret
                exact ⟨by first | rfl | (simp [errW_none, errW_some] <;> rfl) | (simp [*, errW_none, errW_some] <;> rfl), by repeat (first | (with_reducible first | exact HB.out | apply below_alloc | apply pw_below_drewN | apply below_drew1 | refine below_set ?_ GE197.out) | exact HB.out)⟩
              · replace c28 := Bool.eq_false_iff.mpr c28
                subst c28
                have H1 : ((simulate_Config_count.f a0_0 l0_1 l0_2 l0_3 l0_4 a0_5 a0_6 a0_7 a0_8 a0_9 a0_10 a0_11).bind fun t203 => (if t203 > 256 then (some 6) else (some 0))) = some r := by rw [if_neg (show ¬ (false = true) by decide)] at H; exact H
                clear H
                have H := H1
                clear H1
                replace H := Option.bind_eq_some_iff.mp H
                obtain ⟨t203, A290, H⟩ := H
                replace H : (if t203 > 256 then (some 6) else (some 0)) = some r := H
                have A29 := Aside0.mk A290
                clear A290
                by_cases c30 : t203 > 256
                · rw [if_pos c30] at H
                  have c30b0 : decide (256 < t203) = true := decide_eq_true c30
                  clear c30
                  obtain rfl := Option.some.inj H
                  have hcz31_0 : wc.cell? ⟨gb197, 0, none⟩ = some (.int .i64 a0_0) := (blk_cell BK197.out 0).trans rfl
                  have hcz31_1 : wc.cell? ⟨gb197, 1, none⟩ = some (.slice A0_1 l0_1.length c0_1) := (blk_cell BK197.out 1).trans rfl
                  have hcz31_2 : wc.cell? ⟨gb197, 2, none⟩ = some (.slice A0_2 l0_2.length c0_2) := (blk_cell BK197.out 2).trans rfl
                  have hcz31_3 : wc.cell? ⟨gb197, 3, none⟩ = some (.slice A0_3 l0_3.length c0_3) := (blk_cell BK197.out 3).trans rfl
                  have hcz31_4 : wc.cell? ⟨gb197, 4, none⟩ = some (.slice A0_4 l0_4.length c0_4) := (blk_cell BK197.out 4).trans rfl
                  have hcz31_5 : wc.cell? ⟨gb197, 5, none⟩ = some (.int .i64 a0_5) := (blk_cell BK197.out 5).trans rfl
                  have hcz31_6 : wc.cell? ⟨gb197, 6, none⟩ = some (.int .i64 a0_6) := (blk_cell BK197.out 6).trans rfl
                  have hcz31_7 : wc.cell? ⟨gb197, 7, none⟩ = some (.int .i64 a0_7) := (blk_cell BK197.out 7).trans rfl
                  have hcz31_8 : wc.cell? ⟨gb197, 8, none⟩ = some (.int .i64 a0_8) := (blk_cell BK197.out 8).trans rfl
                  have hcz31_9 : wc.cell? ⟨gb197, 9, none⟩ = some (.int .i64 a0_9) := (blk_cell BK197.out 9).trans rfl
                  have hcz31_10 : wc.cell? ⟨gb197, 10, none⟩ = some (.int .i64 a0_10) := (blk_cell BK197.out 10).trans rfl
                  have hcz31_11 : wc.cell? ⟨gb197, 11, none⟩ = some (.int .i64 a0_11) := (blk_cell BK197.out 11).trans rfl
                  have hfz31_0 := blk_frozen BK197.out 0
                  have hfz31_1 := blk_frozen BK197.out 1
                  have hfz31_2 := blk_frozen BK197.out 2
                  have hfz31_3 := blk_frozen BK197.out 3
                  have hfz31_4 := blk_frozen BK197.out 4
                  have hfz31_5 := blk_frozen BK197.out 5
                  have hfz31_6 := blk_frozen BK197.out 6
                  have hfz31_7 := blk_frozen BK197.out 7
                  have hfz31_8 := blk_frozen BK197.out 8
                  have hfz31_9 := blk_frozen BK197.out 9
                  have hfz31_10 := blk_frozen BK197.out 10
                  have hfz31_11 := blk_frozen BK197.out 11
                  go_wp2_with (first | ((with_reducible refine gate_callee (f := 43) rfl ?_); refine goesL_ (some 58) rfl rfl Try.func43 (by kernel_rfl) rfl #[.agg #[.int .i64 a0_0, .slice A0_1 l0_1.length c0_1, .slice A0_2 l0_2.length c0_2, .slice A0_3 l0_3.length c0_3, .slice A0_4 l0_4.length c0_4, .int .i64 a0_5, .int .i64 a0_6, .int .i64 a0_7, .int .i64 a0_8, .int .i64 a0_9, .int .i64 a0_10, .int .i64 a0_11]] rfl (by (try simp only [List.map_toArray, List.map_cons, List.map_nil]); first | done | rfl | (simp only [List.length_drop, List.length_take]; rfl)) ?_; (with_reducible refine (simulate_Config_count.calls a0_0 _ _ l0_1 _ _ l0_2 _ _ l0_3 _ _ l0_4 a0_5 a0_6 a0_7 a0_8 a0_9 a0_10 a0_11 t203 _ ?side1 ?side2 ?side3 ?side4 ?side5 ?side6 ?side7 ?side8 A29.out).mono ?_); (case side1 => repeat (first | exact (Kd.C_below HR0_1.out HB.out) | (with_reducible refine Kd.C_alloc ?_ _) | (with_reducible refine Kd.C_drewN ?_ _) | (with_reducible refine Kd.C_drew ?_))); (case side2 => exact HC0_1.out); (case side3 => repeat (first | exact (Kd.C_below HR0_2.out HB.out) | (with_reducible refine Kd.C_alloc ?_ _) | (with_reducible refine Kd.C_drewN ?_ _) | (with_reducible refine Kd.C_drew ?_))); (case side4 => exact HC0_2.out); (case side5 => repeat (first | exact (Kd.C_below HR0_3.out HB.out) | (with_reducible refine Kd.C_alloc ?_ _) | (with_reducible refine Kd.C_drewN ?_ _) | (with_reducible refine Kd.C_drew ?_))); (case side6 => exact HC0_3.out); (case side7 => repeat (first | exact (Kd.C_below HR0_4.out HB.out) | (with_reducible refine Kd.C_alloc ?_ _) | (with_reducible refine Kd.C_drewN ?_ _) | (with_reducible refine Kd.C_drew ?_))); (case side8 => exact HC0_4.out); rintro e w32 ⟨rfl, hb⟩; refine ⟨_, rfl, ?_⟩; have n0_ := Aside0.mk (blk_below (g := gb197) (o := .cells #[.int .i64 a0_0, .slice A0_1 l0_1.length c0_1, .slice A0_2 l0_2.length c0_2, .slice A0_3 l0_3.length c0_3, .slice A0_4 l0_4.length c0_4, .int .i64 a0_5, .int .i64 a0_6, .int .i64 a0_7, .int .i64 a0_8, .int .i64 a0_9, .int .i64 a0_10, .int .i64 a0_11] 31 (0, 0)) (by (with_reducible repeat (first | refine blk_drewN ?_ _ | refine blk_drew ?_ | refine blk_alloc ?_ _)); exact BK197.out) hb); have n1_ := Aside0.mk (below_step (by repeat (first | (with_reducible first | exact HB.out | apply below_alloc | apply pw_below_drewN | apply below_drew1 | refine below_set ?_ GE197.out) | exact HB.out)) hb); clear BK197; clear HB; have BK197 := n0_; have HB := n1_; clear n0_ n1_; (try clear hb); (try clear hb2); (try clear hk); (try clear hi)))
                  go_ret
                  exact ⟨by first | rfl | (simp [errW_none, errW_some] <;> rfl) | (simp [*, errW_none, errW_some] <;> rfl), by repeat (first | (with_reducible first | exact HB.out | apply below_alloc | apply pw_below_drewN | apply below_drew1 | refine below_set ?_ GE197.out) | exact HB.out)⟩
                · rw [if_neg c30] at H
                  have c30b0 : decide (256 < t203) = false := decide_eq_false c30
                  clear c30
                  obtain rfl := Option.some.inj H
                  have hcz33_0 : wc.cell? ⟨gb197, 0, none⟩ = some (.int .i64 a0_0) := (blk_cell BK197.out 0).trans rfl
                  have hcz33_1 : wc.cell? ⟨gb197, 1, none⟩ = some (.slice A0_1 l0_1.length c0_1) := (blk_cell BK197.out 1).trans rfl
                  have hcz33_2 : wc.cell? ⟨gb197, 2, none⟩ = some (.slice A0_2 l0_2.length c0_2) := (blk_cell BK197.out 2).trans rfl
                  have hcz33_3 : wc.cell? ⟨gb197, 3, none⟩ = some (.slice A0_3 l0_3.length c0_3) := (blk_cell BK197.out 3).trans rfl
                  have hcz33_4 : wc.cell? ⟨gb197, 4, none⟩ = some (.slice A0_4 l0_4.length c0_4) := (blk_cell BK197.out 4).trans rfl
                  have hcz33_5 : wc.cell? ⟨gb197, 5, none⟩ = some (.int .i64 a0_5) := (blk_cell BK197.out 5).trans rfl
                  have hcz33_6 : wc.cell? ⟨gb197, 6, none⟩ = some (.int .i64 a0_6) := (blk_cell BK197.out 6).trans rfl
                  have hcz33_7 : wc.cell? ⟨gb197, 7, none⟩ = some (.int .i64 a0_7) := (blk_cell BK197.out 7).trans rfl
                  have hcz33_8 : wc.cell? ⟨gb197, 8, none⟩ = some (.int .i64 a0_8) := (blk_cell BK197.out 8).trans rfl
                  have hcz33_9 : wc.cell? ⟨gb197, 9, none⟩ = some (.int .i64 a0_9) := (blk_cell BK197.out 9).trans rfl
                  have hcz33_10 : wc.cell? ⟨gb197, 10, none⟩ = some (.int .i64 a0_10) := (blk_cell BK197.out 10).trans rfl
                  have hcz33_11 : wc.cell? ⟨gb197, 11, none⟩ = some (.int .i64 a0_11) := (blk_cell BK197.out 11).trans rfl
                  have hfz33_0 := blk_frozen BK197.out 0
                  have hfz33_1 := blk_frozen BK197.out 1
                  have hfz33_2 := blk_frozen BK197.out 2
                  have hfz33_3 := blk_frozen BK197.out 3
                  have hfz33_4 := blk_frozen BK197.out 4
                  have hfz33_5 := blk_frozen BK197.out 5
                  have hfz33_6 := blk_frozen BK197.out 6
                  have hfz33_7 := blk_frozen BK197.out 7
                  have hfz33_8 := blk_frozen BK197.out 8
                  have hfz33_9 := blk_frozen BK197.out 9
                  have hfz33_10 := blk_frozen BK197.out 10
                  have hfz33_11 := blk_frozen BK197.out 11
                  go_wp2_with (first | ((with_reducible refine gate_callee (f := 43) rfl ?_); refine goesL_ (some 58) rfl rfl Try.func43 (by kernel_rfl) rfl #[.agg #[.int .i64 a0_0, .slice A0_1 l0_1.length c0_1, .slice A0_2 l0_2.length c0_2, .slice A0_3 l0_3.length c0_3, .slice A0_4 l0_4.length c0_4, .int .i64 a0_5, .int .i64 a0_6, .int .i64 a0_7, .int .i64 a0_8, .int .i64 a0_9, .int .i64 a0_10, .int .i64 a0_11]] rfl (by (try simp only [List.map_toArray, List.map_cons, List.map_nil]); first | done | rfl | (simp only [List.length_drop, List.length_take]; rfl)) ?_; (with_reducible refine (simulate_Config_count.calls a0_0 _ _ l0_1 _ _ l0_2 _ _ l0_3 _ _ l0_4 a0_5 a0_6 a0_7 a0_8 a0_9 a0_10 a0_11 t203 _ ?side1 ?side2 ?side3 ?side4 ?side5 ?side6 ?side7 ?side8 A29.out).mono ?_); (case side1 => repeat (first | exact (Kd.C_below HR0_1.out HB.out) | (with_reducible refine Kd.C_alloc ?_ _) | (with_reducible refine Kd.C_drewN ?_ _) | (with_reducible refine Kd.C_drew ?_))); (case side2 => exact HC0_1.out); (case side3 => repeat (first | exact (Kd.C_below HR0_2.out HB.out) | (with_reducible refine Kd.C_alloc ?_ _) | (with_reducible refine Kd.C_drewN ?_ _) | (with_reducible refine Kd.C_drew ?_))); (case side4 => exact HC0_2.out); (case side5 => repeat (first | exact (Kd.C_below HR0_3.out HB.out) | (with_reducible refine Kd.C_alloc ?_ _) | (with_reducible refine Kd.C_drewN ?_ _) | (with_reducible refine Kd.C_drew ?_))); (case side6 => exact HC0_3.out); (case side7 => repeat (first | exact (Kd.C_below HR0_4.out HB.out) | (with_reducible refine Kd.C_alloc ?_ _) | (with_reducible refine Kd.C_drewN ?_ _) | (with_reducible refine Kd.C_drew ?_))); (case side8 => exact HC0_4.out); rintro e w34 ⟨rfl, hb⟩; refine ⟨_, rfl, ?_⟩; have n0_ := Aside0.mk (blk_below (g := gb197) (o := .cells #[.int .i64 a0_0, .slice A0_1 l0_1.length c0_1, .slice A0_2 l0_2.length c0_2, .slice A0_3 l0_3.length c0_3, .slice A0_4 l0_4.length c0_4, .int .i64 a0_5, .int .i64 a0_6, .int .i64 a0_7, .int .i64 a0_8, .int .i64 a0_9, .int .i64 a0_10, .int .i64 a0_11] 31 (0, 0)) (by (with_reducible repeat (first | refine blk_drewN ?_ _ | refine blk_drew ?_ | refine blk_alloc ?_ _)); exact BK197.out) hb); have n1_ := Aside0.mk (below_step (by repeat (first | (with_reducible first | exact HB.out | apply below_alloc | apply pw_below_drewN | apply below_drew1 | refine below_set ?_ GE197.out) | exact HB.out)) hb); clear BK197; clear HB; have BK197 := n0_; have HB := n1_; clear n0_ n1_; (try clear hb); (try clear hb2); (try clear hk); (try clear hi)))
                  go_ret
                  exact ⟨by first | rfl | (simp [errW_none, errW_some] <;> rfl) | (simp [*, errW_none, errW_some] <;> rfl), by repeat (first | (with_reducible first | exact HB.out | apply below_alloc | apply pw_below_drewN | apply below_drew1 | refine below_set ?_ GE197.out) | exact HB.out)⟩

end Go.Proofs.Ytdadnapfecmmdaa.P
