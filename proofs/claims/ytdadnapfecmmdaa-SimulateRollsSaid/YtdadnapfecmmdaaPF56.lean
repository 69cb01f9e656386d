-- PRINTED by print.py (a twelfth state) out of the translation. Not trusted: Lean checks it.
import Derived.Test.YtdadnapfecmmdaaP0
import Derived.Test.YtdadnapfecmmdaaPF52
import Derived.Test.YtdadnapfecmmdaaPF51
import Derived.Test.YtdadnapfecmmdaaPF80
namespace Go.Proofs.Ytdadnapfecmmdaa.P
open Go.RowKit Go.Proofs.YtdadnapfecmmdaaW.PrintWords Go.Proofs.YtdadnapfecmmdaaW.PrintLast Go.Proofs.YtdadnapfecmmdaaW.PrintMore
attribute [local go_sem] max2_int min2_int max_two min_two max_three min_three max_four min_four   -- for this text's walks alone
set_option linter.unusedVariables false
set_option linter.unusedSimpArgs false

/-! ### simulate_Config_checkFaults: function 56 -/
mutual
def simulate_Config_checkFaults.l0 : Nat → List (S61) → Int → Int → Int → List (S64) → List (S91) → List (S100) → List (S61) → Int → Int → Int → Int → Int → Int → Int → Option (Int)
  | 0, _, _, _, _, _, _, _, _, _, _, _, _, _, _, _ => none
  | k + 1, x6, x7, x8, x191000, x191001, x191002, x191003, x191004, x191005, x191006, x191007, x191008, x191009, x191010, x191011 => if x8 < x7 then (if 0 ≤ x8 then (if x8 < (x6.length : Int) then ((simulate_Config_index.f x191000 x191001 x191002 x191003 x191004 x191005 x191006 x191007 x191008 x191009 x191010 x191011 ((rd_T61 x6 x8).f0)).bind fun t193 => (if t193 < 0 then (some 16) else (if ((rd_T61 x6 x8).f1).toList = ([] : List UInt8) then (simulate_Config_checkFaults.j1 k x6 x7 x8 false x191000 x191001 x191002 x191003 x191004 x191005 x191006 x191007 x191008 x191009 x191010 x191011 ((rd_T61 x6 x8).f0) ((rd_T61 x6 x8).f1) ((rd_T61 x6 x8).f2.f0) ((rd_T61 x6 x8).f2.f1) ((rd_T61 x6 x8).f3) ((rd_T61 x6 x8).f4)) else ((attribute_IsName.f k ((rd_T61 x6 x8).f1)).bind fun t194 => (simulate_Config_checkFaults.j1 k x6 x7 x8 (!t194) x191000 x191001 x191002 x191003 x191004 x191005 x191006 x191007 x191008 x191009 x191010 x191011 ((rd_T61 x6 x8).f0) ((rd_T61 x6 x8).f1) ((rd_T61 x6 x8).f2.f0) ((rd_T61 x6 x8).f2.f1) ((rd_T61 x6 x8).f3) ((rd_T61 x6 x8).f4)))))) else (none)) else (none)) else (some 0)
def simulate_Config_checkFaults.j1 : Nat → List (S61) → Int → Int → Bool → Int → List (S64) → List (S91) → List (S100) → List (S61) → Int → Int → Int → Int → Int → Int → Int → ByteArray → ByteArray → Int → Int → Int → Int → Option (Int)
  | 0, _, _, _, _, _, _, _, _, _, _, _, _, _, _, _, _, _, _, _, _, _, _ => none
  | k + 1, x6, x7, x8, x18, x191000, x191001, x191002, x191003, x191004, x191005, x191006, x191007, x191008, x191009, x191010, x191011, x193000, x193001, x193002, x193003, x193004, x193005 => if x18 = true then (some 11) else (if x193002 < 0 then (simulate_Config_checkFaults.j2 k x6 x7 x8 true x191000 x191001 x191002 x191003 x191004 x191005 x191006 x191007 x191008 x191009 x191010 x191011 x193000 x193001 x193002 x193003 x193004 x193005) else (if x193002 ≥ x193003 then (simulate_Config_checkFaults.j2 k x6 x7 x8 true x191000 x191001 x191002 x191003 x191004 x191005 x191006 x191007 x191008 x191009 x191010 x191011 x193000 x193001 x193002 x193003 x193004 x193005) else (simulate_Config_checkFaults.j2 k x6 x7 x8 (decide (x193003 > 1048577)) x191000 x191001 x191002 x191003 x191004 x191005 x191006 x191007 x191008 x191009 x191010 x191011 x193000 x193001 x193002 x193003 x193004 x193005)))
def simulate_Config_checkFaults.j2 : Nat → List (S61) → Int → Int → Bool → Int → List (S64) → List (S91) → List (S100) → List (S61) → Int → Int → Int → Int → Int → Int → Int → ByteArray → ByteArray → Int → Int → Int → Int → Option (Int)
  | 0, _, _, _, _, _, _, _, _, _, _, _, _, _, _, _, _, _, _, _, _, _, _ => none
  | k + 1, x6, x7, x8, x28, x191000, x191001, x191002, x191003, x191004, x191005, x191006, x191007, x191008, x191009, x191010, x191011, x193000, x193001, x193002, x193003, x193004, x193005 => if x28 = true then (some 32) else ((simulate_outside.f x193004 0 1048576).bind fun t195 => (if t195 = true then (some 2) else ((simulate_outside.f x193005 0 1000000).bind fun t196 => (if t196 = true then (some 2) else (simulate_Config_checkFaults.l0 k x6 x7 (wrap64 (x8 + 1)) x191000 x191001 x191002 x191003 x191004 x191005 x191006 x191007 x191008 x191009 x191010 x191011)))))
end
def simulate_Config_checkFaults.f (k : Nat) (a0_0 : Int) (l0_1 : List (S64)) (l0_2 : List (S91)) (l0_3 : List (S100)) (l0_4 : List (S61)) (a0_5 : Int) (a0_6 : Int) (a0_7 : Int) (a0_8 : Int) (a0_9 : Int) (a0_10 : Int) (a0_11 : Int) : Option (Int) := simulate_Config_checkFaults.l0 k l0_4 (l0_4.length : Int) 0 a0_0 l0_1 l0_2 l0_3 l0_4 a0_5 a0_6 a0_7 a0_8 a0_9 a0_10 a0_11
theorem simulate_Config_checkFaults.mono_l : ∀ k, (∀ y0 y1 y2 y3 y4 y5 y6 y7 y8 y9 y10 y11 y12 y13 y14, LeO (simulate_Config_checkFaults.l0 k y0 y1 y2 y3 y4 y5 y6 y7 y8 y9 y10 y11 y12 y13 y14) (simulate_Config_checkFaults.l0 (k + 1) y0 y1 y2 y3 y4 y5 y6 y7 y8 y9 y10 y11 y12 y13 y14)) ∧ (∀ y0 y1 y2 y3 y4 y5 y6 y7 y8 y9 y10 y11 y12 y13 y14 y15 y16 y17 y18 y19 y20 y21, LeO (simulate_Config_checkFaults.j1 k y0 y1 y2 y3 y4 y5 y6 y7 y8 y9 y10 y11 y12 y13 y14 y15 y16 y17 y18 y19 y20 y21) (simulate_Config_checkFaults.j1 (k + 1) y0 y1 y2 y3 y4 y5 y6 y7 y8 y9 y10 y11 y12 y13 y14 y15 y16 y17 y18 y19 y20 y21)) ∧ (∀ y0 y1 y2 y3 y4 y5 y6 y7 y8 y9 y10 y11 y12 y13 y14 y15 y16 y17 y18 y19 y20 y21, LeO (simulate_Config_checkFaults.j2 k y0 y1 y2 y3 y4 y5 y6 y7 y8 y9 y10 y11 y12 y13 y14 y15 y16 y17 y18 y19 y20 y21) (simulate_Config_checkFaults.j2 (k + 1) y0 y1 y2 y3 y4 y5 y6 y7 y8 y9 y10 y11 y12 y13 y14 y15 y16 y17 y18 y19 y20 y21))
  | 0 => ⟨fun _ _ _ _ _ _ _ _ _ _ _ _ _ _ _ r h => by simp [simulate_Config_checkFaults.l0] at h, fun _ _ _ _ _ _ _ _ _ _ _ _ _ _ _ _ _ _ _ _ _ _ r h => by simp [simulate_Config_checkFaults.j1] at h, fun _ _ _ _ _ _ _ _ _ _ _ _ _ _ _ _ _ _ _ _ _ _ r h => by simp [simulate_Config_checkFaults.j2] at h⟩
  | k + 1 => by
    obtain ⟨ih0, ih1, ih2⟩ := simulate_Config_checkFaults.mono_l k
    refine ⟨?_, ?_, ?_⟩
    · intro y0 y1 y2 y3 y4 y5 y6 y7 y8 y9 y10 y11 y12 y13 y14
      unfold simulate_Config_checkFaults.l0
      repeat' first
      | (with_reducible exact ih0 _ _ _ _ _ _ _ _ _ _ _ _ _ _ _)
      | (with_reducible exact ih1 _ _ _ _ _ _ _ _ _ _ _ _ _ _ _ _ _ _ _ _ _ _)
      | (with_reducible exact ih2 _ _ _ _ _ _ _ _ _ _ _ _ _ _ _ _ _ _ _ _ _ _)
      | (with_reducible exact attribute_IsName.mono _ _)
      | (with_reducible exact LeO.refl _)
      | (with_reducible exact LeO.none _)
      | (with_reducible refine LeO.ite ?_ ?_)
      | (with_reducible refine LeO.bind ?_ (fun _ => ?_))
      | exact ih0 _ _ _ _ _ _ _ _ _ _ _ _ _ _ _
      | exact ih1 _ _ _ _ _ _ _ _ _ _ _ _ _ _ _ _ _ _ _ _ _ _
      | exact ih2 _ _ _ _ _ _ _ _ _ _ _ _ _ _ _ _ _ _ _ _ _ _
      | exact attribute_IsName.mono _ _
      | exact LeO.none _
      | refine LeO.ite ?_ ?_
      | refine LeO.bind ?_ (fun _ => ?_)
    · intro y0 y1 y2 y3 y4 y5 y6 y7 y8 y9 y10 y11 y12 y13 y14 y15 y16 y17 y18 y19 y20 y21
      unfold simulate_Config_checkFaults.j1
      repeat' first
      | (with_reducible exact ih0 _ _ _ _ _ _ _ _ _ _ _ _ _ _ _)
      | (with_reducible exact ih1 _ _ _ _ _ _ _ _ _ _ _ _ _ _ _ _ _ _ _ _ _ _)
      | (with_reducible exact ih2 _ _ _ _ _ _ _ _ _ _ _ _ _ _ _ _ _ _ _ _ _ _)
      | (with_reducible exact attribute_IsName.mono _ _)
      | (with_reducible exact LeO.refl _)
      | (with_reducible exact LeO.none _)
      | (with_reducible refine LeO.ite ?_ ?_)
      | (with_reducible refine LeO.bind ?_ (fun _ => ?_))
      | exact ih0 _ _ _ _ _ _ _ _ _ _ _ _ _ _ _
      | exact ih1 _ _ _ _ _ _ _ _ _ _ _ _ _ _ _ _ _ _ _ _ _ _
      | exact ih2 _ _ _ _ _ _ _ _ _ _ _ _ _ _ _ _ _ _ _ _ _ _
      | exact attribute_IsName.mono _ _
      | exact LeO.none _
      | refine LeO.ite ?_ ?_
      | refine LeO.bind ?_ (fun _ => ?_)
    · intro y0 y1 y2 y3 y4 y5 y6 y7 y8 y9 y10 y11 y12 y13 y14 y15 y16 y17 y18 y19 y20 y21
      unfold simulate_Config_checkFaults.j2
      repeat' first
      | (with_reducible exact ih0 _ _ _ _ _ _ _ _ _ _ _ _ _ _ _)
      | (with_reducible exact ih1 _ _ _ _ _ _ _ _ _ _ _ _ _ _ _ _ _ _ _ _ _ _)
      | (with_reducible exact ih2 _ _ _ _ _ _ _ _ _ _ _ _ _ _ _ _ _ _ _ _ _ _)
      | (with_reducible exact attribute_IsName.mono _ _)
      | (with_reducible exact LeO.refl _)
      | (with_reducible exact LeO.none _)
      | (with_reducible refine LeO.ite ?_ ?_)
      | (with_reducible refine LeO.bind ?_ (fun _ => ?_))
      | exact ih0 _ _ _ _ _ _ _ _ _ _ _ _ _ _ _
      | exact ih1 _ _ _ _ _ _ _ _ _ _ _ _ _ _ _ _ _ _ _ _ _ _
      | exact ih2 _ _ _ _ _ _ _ _ _ _ _ _ _ _ _ _ _ _ _ _ _ _
      | exact attribute_IsName.mono _ _
      | exact LeO.none _
      | refine LeO.ite ?_ ?_
      | refine LeO.bind ?_ (fun _ => ?_)
theorem simulate_Config_checkFaults.mono : ∀ a0 a1 a2 a3 a4 a5 a6 a7 a8 a9 a10 a11 k, LeO (simulate_Config_checkFaults.f k a0 a1 a2 a3 a4 a5 a6 a7 a8 a9 a10 a11) (simulate_Config_checkFaults.f (k + 1) a0 a1 a2 a3 a4 a5 a6 a7 a8 a9 a10 a11) := by
  intro a0 a1 a2 a3 a4 a5 a6 a7 a8 a9 a10 a11 k
  obtain ⟨ih0, ih1, ih2⟩ := simulate_Config_checkFaults.mono_l k
  unfold simulate_Config_checkFaults.f
  repeat' first
      | (with_reducible exact ih0 _ _ _ _ _ _ _ _ _ _ _ _ _ _ _)
      | (with_reducible exact ih1 _ _ _ _ _ _ _ _ _ _ _ _ _ _ _ _ _ _ _ _ _ _)
      | (with_reducible exact ih2 _ _ _ _ _ _ _ _ _ _ _ _ _ _ _ _ _ _ _ _ _ _)
      | (with_reducible exact attribute_IsName.mono _ _)
      | (with_reducible exact LeO.refl _)
      | (with_reducible exact LeO.none _)
      | (with_reducible refine LeO.ite ?_ ?_)
      | (with_reducible refine LeO.bind ?_ (fun _ => ?_))
      | exact ih0 _ _ _ _ _ _ _ _ _ _ _ _ _ _ _
      | exact ih1 _ _ _ _ _ _ _ _ _ _ _ _ _ _ _ _ _ _ _ _ _ _
      | exact ih2 _ _ _ _ _ _ _ _ _ _ _ _ _ _ _ _ _ _ _ _ _ _
      | exact attribute_IsName.mono _ _
      | exact LeO.none _
      | refine LeO.ite ?_ ?_
      | refine LeO.bind ?_ (fun _ => ?_)
set_option maxHeartbeats 8000000 in
set_option maxRecDepth 100000 in
theorem simulate_Config_checkFaults.calls (k : Nat) (a0_0 : Int) (A0_1 : Option Addr) (c0_1 : Nat) (l0_1 : List (S64)) (A0_2 : Option Addr) (c0_2 : Nat) (l0_2 : List (S91)) (A0_3 : Option Addr) (c0_3 : Nat) (l0_3 : List (S100)) (A0_4 : Option Addr) (c0_4 : Nat) (l0_4 : List (S61)) (a0_5 : Int) (a0_6 : Int) (a0_7 : Int) (a0_8 : Int) (a0_9 : Int) (a0_10 : Int) (a0_11 : Int) (r : Int) (w : World) (hr0_1 : Kd.C k64 w A0_1 l0_1.length l0_1) (hc0_1 : l0_1.length ≤ c0_1) (hr0_2 : Kd.C k91 w A0_2 l0_2.length l0_2) (hc0_2 : l0_2.length ≤ c0_2) (hr0_3 : Kd.C k100 w A0_3 l0_3.length l0_3) (hc0_3 : l0_3.length ≤ c0_3) (hr0_4 : Kd.C k61 w A0_4 l0_4.length l0_4) (hc0_4 : l0_4.length ≤ c0_4) (h : simulate_Config_checkFaults.f k a0_0 l0_1 l0_2 l0_3 l0_4 a0_5 a0_6 a0_7 a0_8 a0_9 a0_10 a0_11 = some r) :
    Calls Try.prog 56 #[.agg #[.int .i64 a0_0, .slice A0_1 l0_1.length c0_1, .slice A0_2 l0_2.length c0_2, .slice A0_3 l0_3.length c0_3, .slice A0_4 l0_4.length c0_4, .int .i64 a0_5, .int .i64 a0_6, .int .i64 a0_7, .int .i64 a0_8, .int .i64 a0_9, .int .i64 a0_10, .int .i64 a0_11]] w fun e w' => e = .returned (.int .i64 r) ∧ Below w.heap.size w w' := by
  have hu31 := Try.underlying31
  have hu61 := Try.underlying61
  have HR0_1 := Aside0.mk hr0_1
  have HC0_1 := Aside0.mk hc0_1
  clear hr0_1 hc0_1
  have HR0_2 := Aside0.mk hr0_2
  have HC0_2 := Aside0.mk hc0_2
  clear hr0_2 hc0_2
  have HR0_3 := Aside0.mk hr0_3
  have HC0_3 := Aside0.mk hc0_3
  clear hr0_3 hc0_3
  have HR0_4 := Aside0.mk hr0_4
  have HC0_4 := Aside0.mk hc0_4
  clear hr0_4 hc0_4
  have HB := Aside0.mk (Below.refl w.heap.size w)
  have H : (simulate_Config_checkFaults.l0 k l0_4 (l0_4.length : Int) 0 a0_0 l0_1 l0_2 l0_3 l0_4 a0_5 a0_6 a0_7 a0_8 a0_9 a0_10 a0_11) = some r := h
  clear h
  have H' := Aside0.mk H
  clear H
  go_enter Try.func56, Try.ntmps56
  go_wp2_with (first | ((with_reducible refine gate_dst (N := 1) rfl ?_); refine box_event ?hg (N := 1) ?hd (cs := #[.int .i64 a0_0, .slice A0_1 l0_1.length c0_1, .slice A0_2 l0_2.length c0_2, .slice A0_3 l0_3.length c0_3, .slice A0_4 l0_4.length c0_4, .int .i64 a0_5, .int .i64 a0_6, .int .i64 a0_7, .int .i64 a0_8, .int .i64 a0_9, .int .i64 a0_10, .int .i64 a0_11]) (t := 31) ?hr ?_; (case hd => rfl); (case hg => rfl); (case hr => first | (go_simp; done) | (go_simp; rfl)); intro gb190 hg w2 hbox hb; have n0_ := Aside0.mk (below_step (by repeat (first | (with_reducible first | exact HB.out | apply below_alloc | apply pw_below_drewN | apply below_drew1) | exact HB.out)) hb); have n1_ := Aside0.mk (hbox); have n2_ := Aside0.mk ((by rw [hg]; exact (below_size (by repeat (first | (with_reducible first | exact HB.out | apply below_alloc | apply pw_below_drewN | apply below_drew1) | exact HB.out))) : w.heap.size ≤ gb190)); have n3_ := Aside0.mk ((by rw [hg]; exact (below_size (by repeat (first | (with_reducible first | exact HB.out | apply below_alloc | apply pw_below_drewN | apply below_drew1) | exact HB.out))) : w.heap.size ≤ gb190)); clear HB; have HB := n0_; have BK190 := n1_; have GW190 := n2_; have GE190 := n3_; clear n0_ n1_ n2_ n3_; clear hb hbox hg; have hcz3_0 : w2.cell? ⟨gb190, 0, none⟩ = some (.int .i64 a0_0) := (blk_cell BK190.out 0).trans rfl; have hcz3_1 : w2.cell? ⟨gb190, 1, none⟩ = some (.slice A0_1 l0_1.length c0_1) := (blk_cell BK190.out 1).trans rfl; have hcz3_2 : w2.cell? ⟨gb190, 2, none⟩ = some (.slice A0_2 l0_2.length c0_2) := (blk_cell BK190.out 2).trans rfl; have hcz3_3 : w2.cell? ⟨gb190, 3, none⟩ = some (.slice A0_3 l0_3.length c0_3) := (blk_cell BK190.out 3).trans rfl; have hcz3_4 : w2.cell? ⟨gb190, 4, none⟩ = some (.slice A0_4 l0_4.length c0_4) := (blk_cell BK190.out 4).trans rfl; have hcz3_5 : w2.cell? ⟨gb190, 5, none⟩ = some (.int .i64 a0_5) := (blk_cell BK190.out 5).trans rfl; have hcz3_6 : w2.cell? ⟨gb190, 6, none⟩ = some (.int .i64 a0_6) := (blk_cell BK190.out 6).trans rfl; have hcz3_7 : w2.cell? ⟨gb190, 7, none⟩ = some (.int .i64 a0_7) := (blk_cell BK190.out 7).trans rfl; have hcz3_8 : w2.cell? ⟨gb190, 8, none⟩ = some (.int .i64 a0_8) := (blk_cell BK190.out 8).trans rfl; have hcz3_9 : w2.cell? ⟨gb190, 9, none⟩ = some (.int .i64 a0_9) := (blk_cell BK190.out 9).trans rfl; have hcz3_10 : w2.cell? ⟨gb190, 10, none⟩ = some (.int .i64 a0_10) := (blk_cell BK190.out 10).trans rfl; have hcz3_11 : w2.cell? ⟨gb190, 11, none⟩ = some (.int .i64 a0_11) := (blk_cell BK190.out 11).trans rfl; have hfz3_0 := blk_frozen BK190.out 0; have hfz3_1 := blk_frozen BK190.out 1; have hfz3_2 := blk_frozen BK190.out 2; have hfz3_3 := blk_frozen BK190.out 3; have hfz3_4 := blk_frozen BK190.out 4; have hfz3_5 := blk_frozen BK190.out 5; have hfz3_6 := blk_frozen BK190.out 6; have hfz3_7 := blk_frozen BK190.out 7; have hfz3_8 := blk_frozen BK190.out 8; have hfz3_9 := blk_frozen BK190.out 9; have hfz3_10 := blk_frozen BK190.out 10; have hfz3_11 := blk_frozen BK190.out 11))
  go_loopg [8] k (fun kq v8 w' => ∃ (x8_1 : Int), v8 = .int .i64 x8_1 ∧ Aside0 (simulate_Config_checkFaults.l0 kq l0_4 (l0_4.length : Int) x8_1 a0_0 l0_1 l0_2 l0_3 l0_4 a0_5 a0_6 a0_7 a0_8 a0_9 a0_10 a0_11 = some r) ∧ Aside0 (kq ≤ k) ∧ Aside0 (w'.heap[gb190]? = some (.cells #[.int .i64 a0_0, (.slice A0_1 l0_1.length c0_1), (.slice A0_2 l0_2.length c0_2), (.slice A0_3 l0_3.length c0_3), (.slice A0_4 l0_4.length c0_4), .int .i64 a0_5, .int .i64 a0_6, .int .i64 a0_7, .int .i64 a0_8, .int .i64 a0_9, .int .i64 a0_10, .int .i64 a0_11] 31 (0, 0))) ∧ Aside0 (Below w.heap.size w w'))
  case atStart => exact ⟨(0), (by first | rfl | (simp; done) | (simp [*]; done)), H', ⟨Nat.le_refl _⟩, ⟨by (with_reducible repeat (first | refine blk_drewN ?_ _ | refine blk_drew ?_ | refine blk_alloc ?_ _)); exact BK190.out⟩, ⟨by repeat (first | (with_reducible first | exact HB.out | apply below_alloc | apply pw_below_drewN | apply below_drew1 | refine below_set ?_ GE190.out) | exact HB.out)⟩⟩
  case round =>
    clear H'
    try clear p2
    try clear hcz3_0
    try clear hcz3_1
    try clear hcz3_10
    try clear hcz3_11
    try clear hcz3_2
    try clear hcz3_3
    try clear hcz3_4
    try clear hcz3_5
    try clear hcz3_6
    try clear hcz3_7
    try clear hcz3_8
    try clear hcz3_9
    try clear hfz3_0
    try clear hfz3_1
    try clear hfz3_10
    try clear hfz3_11
    try clear hfz3_2
    try clear hfz3_3
    try clear hfz3_4
    try clear hfz3_5
    try clear hfz3_6
    try clear hfz3_7
    try clear hfz3_8
    try clear hfz3_9
    obtain ⟨x8_1, rfl, HA, HK1, BK190, HB⟩ := hrel
    cases gk with
    | zero => exact absurd HA.out (by simp [simulate_Config_checkFaults.l0])
    | succ k1 =>
      have H := HA.out
      clear HA
      simp only [simulate_Config_checkFaults.l0] at H
      by_cases c4 : x8_1 < (l0_4.length : Int)
      · rw [if_pos c4] at H
        have c4b0 : decide (x8_1 < (l0_4.length : Int)) = true := decide_eq_true c4
        clear c4
        by_cases c5 : 0 ≤ x8_1
        · rw [if_pos c5] at H
          have c5b0 : decide (0 ≤ x8_1) = true := decide_eq_true c5
          clear c5
          by_cases c6 : x8_1 < (l0_4.length : Int)
          · rw [if_pos c6] at H
            have c6b0 : decide (x8_1 < (l0_4.length : Int)) = true := decide_eq_true c6
            clear c6
            replace H := Option.bind_eq_some_iff.mp H
            obtain ⟨t193, A70, H⟩ := H
            replace H : (if t193 < 0 then (some 16) else (if ((rd_T61 l0_4 x8_1).f1).toList = ([] : List UInt8) then (simulate_Config_checkFaults.j1 k1 l0_4 (l0_4.length : Int) x8_1 false a0_0 l0_1 l0_2 l0_3 l0_4 a0_5 a0_6 a0_7 a0_8 a0_9 a0_10 a0_11 ((rd_T61 l0_4 x8_1).f0) ((rd_T61 l0_4 x8_1).f1) ((rd_T61 l0_4 x8_1).f2.f0) ((rd_T61 l0_4 x8_1).f2.f1) ((rd_T61 l0_4 x8_1).f3) ((rd_T61 l0_4 x8_1).f4)) else ((attribute_IsName.f k1 ((rd_T61 l0_4 x8_1).f1)).bind fun t194 => (simulate_Config_checkFaults.j1 k1 l0_4 (l0_4.length : Int) x8_1 (!t194) a0_0 l0_1 l0_2 l0_3 l0_4 a0_5 a0_6 a0_7 a0_8 a0_9 a0_10 a0_11 ((rd_T61 l0_4 x8_1).f0) ((rd_T61 l0_4 x8_1).f1) ((rd_T61 l0_4 x8_1).f2.f0) ((rd_T61 l0_4 x8_1).f2.f1) ((rd_T61 l0_4 x8_1).f3) ((rd_T61 l0_4 x8_1).f4))))) = some r := H
            have A7 := Aside0.mk A70
            clear A70
            by_cases c8 : t193 < 0
            · rw [if_pos c8] at H
              have c8b0 : decide (t193 < 0) = true := decide_eq_true c8
              clear c8
              obtain rfl := Option.some.inj H
              have p191 : 0 ≤ (x8_1 : Int) := of_decide_eq_true (by first | (with_reducible assumption) | assumption)
              have q191 : x8_1 < (l0_4.length : Int) := of_decide_eq_true (by first | (with_reducible assumption) | assumption)
              obtain ⟨ad191, e191, hx191_0, hx191_1, hx191_2, hx191_3, hx191_4, hx191_5⟩ := at_T61 HR0_4.out x8_1 p191 q191
              cases e191
              replace hx191_0 := (HB.out.cell (World.block_lt_of_cell? w _ hx191_0)).trans hx191_0
              replace hx191_1 := (HB.out.cell (World.block_lt_of_cell? w _ hx191_1)).trans hx191_1
              replace hx191_2 := (HB.out.cell (World.block_lt_of_cell? w _ hx191_2)).trans hx191_2
              replace hx191_3 := (HB.out.cell (World.block_lt_of_cell? w _ hx191_3)).trans hx191_3
              replace hx191_4 := (HB.out.cell (World.block_lt_of_cell? w _ hx191_4)).trans hx191_4
              replace hx191_5 := (HB.out.cell (World.block_lt_of_cell? w _ hx191_5)).trans hx191_5
              replace p191 := eq_true p191
              replace q191 := eq_true q191
              go_wp2_with (first | ((with_reducible refine gate_dst (N := 4) rfl ?_); refine box_event ?hg (N := 4) ?hd (cs := #[.string (⟨#[]⟩ : ByteArray), .string (⟨#[]⟩ : ByteArray), .int .i64 0, .int .i64 0, .int .i64 0, .int .i64 0]) (t := 61) ?hr ?_; (case hd => rfl); (case hg => rfl); (case hr => first | (go_simp; done) | (go_simp; rfl)); intro gb192 hg w9 hbox hb; have n0_ := Aside0.mk (blk_below (g := gb190) (o := .cells #[.int .i64 a0_0, .slice A0_1 l0_1.length c0_1, .slice A0_2 l0_2.length c0_2, .slice A0_3 l0_3.length c0_3, .slice (some ad191) l0_4.length c0_4, .int .i64 a0_5, .int .i64 a0_6, .int .i64 a0_7, .int .i64 a0_8, .int .i64 a0_9, .int .i64 a0_10, .int .i64 a0_11] 31 (0, 0)) (by (with_reducible repeat (first | refine blk_drewN ?_ _ | refine blk_drew ?_ | refine blk_alloc ?_ _)); exact BK190.out) hb); have n1_ := Aside0.mk (below_step (by repeat (first | (with_reducible first | exact HB.out | apply below_alloc | apply pw_below_drewN | apply below_drew1 | refine below_set ?_ GE190.out) | exact HB.out)) hb); have n2_ := Aside0.mk (hbox); have n3_ := Aside0.mk ((by rw [hg]; exact (below_size (by repeat (first | (with_reducible first | exact HB.out | apply below_alloc | apply pw_below_drewN | apply below_drew1 | refine below_set ?_ GE190.out) | exact HB.out))) : w.heap.size ≤ gb192)); have n4_ := Aside0.mk ((by rw [hg]; exact (below_size (by repeat (first | (with_reducible first | exact HB.out | apply below_alloc | apply pw_below_drewN | apply below_drew1 | refine below_set ?_ GE190.out) | exact HB.out))) : w.heap.size ≤ gb192)); have n5_ := Aside0.mk ((by rw [hg]; exact Nat.ne_of_lt (blk_lt (g := gb190) (o := .cells #[.int .i64 a0_0, .slice A0_1 l0_1.length c0_1, .slice A0_2 l0_2.length c0_2, .slice A0_3 l0_3.length c0_3, .slice (some ad191) l0_4.length c0_4, .int .i64 a0_5, .int .i64 a0_6, .int .i64 a0_7, .int .i64 a0_8, .int .i64 a0_9, .int .i64 a0_10, .int .i64 a0_11] 31 (0, 0)) (by (with_reducible repeat (first | refine blk_drewN ?_ _ | refine blk_drew ?_ | refine blk_alloc ?_ _)); exact BK190.out)) : gb190 ≠ gb192)); have n6_ := Aside0.mk ((by rw [hg]; exact Nat.ne_of_gt (blk_lt (g := gb190) (o := .cells #[.int .i64 a0_0, .slice A0_1 l0_1.length c0_1, .slice A0_2 l0_2.length c0_2, .slice A0_3 l0_3.length c0_3, .slice (some ad191) l0_4.length c0_4, .int .i64 a0_5, .int .i64 a0_6, .int .i64 a0_7, .int .i64 a0_8, .int .i64 a0_9, .int .i64 a0_10, .int .i64 a0_11] 31 (0, 0)) (by (with_reducible repeat (first | refine blk_drewN ?_ _ | refine blk_drew ?_ | refine blk_alloc ?_ _)); exact BK190.out)) : gb192 ≠ gb190)); clear BK190; clear HB; have BK190 := n0_; have HB := n1_; have BK192 := n2_; have GW192 := n3_; have GE192 := n4_; have NB190_192 := n5_; have NB192_190 := n6_; clear n0_ n1_ n2_ n3_ n4_ n5_ n6_; clear hb hbox hg; have hnb10 := NB192_190.out; have hnc10 := NB190_192.out; have hcz11_0 : w9.cell? ⟨gb192, 0, none⟩ = some (.string (⟨#[]⟩ : ByteArray)) := (blk_cell BK192.out 0).trans rfl; have hcz11_1 : w9.cell? ⟨gb192, 1, none⟩ = some (.string (⟨#[]⟩ : ByteArray)) := (blk_cell BK192.out 1).trans rfl; have hcz11_2 : w9.cell? ⟨gb192, 2, none⟩ = some (.int .i64 0) := (blk_cell BK192.out 2).trans rfl; have hcz11_3 : w9.cell? ⟨gb192, 3, none⟩ = some (.int .i64 0) := (blk_cell BK192.out 3).trans rfl; have hcz11_4 : w9.cell? ⟨gb192, 4, none⟩ = some (.int .i64 0) := (blk_cell BK192.out 4).trans rfl; have hcz11_5 : w9.cell? ⟨gb192, 5, none⟩ = some (.int .i64 0) := (blk_cell BK192.out 5).trans rfl; have hfz11_0 := blk_frozen BK192.out 0; have hfz11_1 := blk_frozen BK192.out 1; have hfz11_2 := blk_frozen BK192.out 2; have hfz11_3 := blk_frozen BK192.out 3; have hfz11_4 := blk_frozen BK192.out 4; have hfz11_5 := blk_frozen BK192.out 5; have hcz12_0 : w9.cell? ⟨gb190, 0, none⟩ = some (.int .i64 a0_0) := (blk_cell BK190.out 0).trans rfl; have hcz12_1 : w9.cell? ⟨gb190, 1, none⟩ = some (.slice A0_1 l0_1.length c0_1) := (blk_cell BK190.out 1).trans rfl; have hcz12_2 : w9.cell? ⟨gb190, 2, none⟩ = some (.slice A0_2 l0_2.length c0_2) := (blk_cell BK190.out 2).trans rfl; have hcz12_3 : w9.cell? ⟨gb190, 3, none⟩ = some (.slice A0_3 l0_3.length c0_3) := (blk_cell BK190.out 3).trans rfl; have hcz12_4 : w9.cell? ⟨gb190, 4, none⟩ = some (.slice (some ad191) l0_4.length c0_4) := (blk_cell BK190.out 4).trans rfl; have hcz12_5 : w9.cell? ⟨gb190, 5, none⟩ = some (.int .i64 a0_5) := (blk_cell BK190.out 5).trans rfl; have hcz12_6 : w9.cell? ⟨gb190, 6, none⟩ = some (.int .i64 a0_6) := (blk_cell BK190.out 6).trans rfl; have hcz12_7 : w9.cell? ⟨gb190, 7, none⟩ = some (.int .i64 a0_7) := (blk_cell BK190.out 7).trans rfl; have hcz12_8 : w9.cell? ⟨gb190, 8, none⟩ = some (.int .i64 a0_8) := (blk_cell BK190.out 8).trans rfl; have hcz12_9 : w9.cell? ⟨gb190, 9, none⟩ = some (.int .i64 a0_9) := (blk_cell BK190.out 9).trans rfl; have hcz12_10 : w9.cell? ⟨gb190, 10, none⟩ = some (.int .i64 a0_10) := (blk_cell BK190.out 10).trans rfl; have hcz12_11 : w9.cell? ⟨gb190, 11, none⟩ = some (.int .i64 a0_11) := (blk_cell BK190.out 11).trans rfl; have hfz12_0 := blk_frozen BK190.out 0; have hfz12_1 := blk_frozen BK190.out 1; have hfz12_2 := blk_frozen BK190.out 2; have hfz12_3 := blk_frozen BK190.out 3; have hfz12_4 := blk_frozen BK190.out 4; have hfz12_5 := blk_frozen BK190.out 5; have hfz12_6 := blk_frozen BK190.out 6; have hfz12_7 := blk_frozen BK190.out 7; have hfz12_8 := blk_frozen BK190.out 8; have hfz12_9 := blk_frozen BK190.out 9; have hfz12_10 := blk_frozen BK190.out 10; have hfz12_11 := blk_frozen BK190.out 11) | ((with_reducible refine gate_callee (f := 80) rfl ?_); refine goesL_ (some 16) rfl rfl Try.func80 (by kernel_rfl) rfl #[.agg #[.int .i64 a0_0, .slice A0_1 l0_1.length c0_1, .slice A0_2 l0_2.length c0_2, .slice A0_3 l0_3.length c0_3, .slice (some ad191) l0_4.length c0_4, .int .i64 a0_5, .int .i64 a0_6, .int .i64 a0_7, .int .i64 a0_8, .int .i64 a0_9, .int .i64 a0_10, .int .i64 a0_11], .string ((rd_T61 l0_4 x8_1).f0)] rfl (by (try simp only [List.map_toArray, List.map_cons, List.map_nil]); first | done | rfl | (simp only [List.length_drop, List.length_take]; rfl)) ?_; (with_reducible refine (simulate_Config_index.calls a0_0 _ _ l0_1 _ _ l0_2 _ _ l0_3 _ _ l0_4 a0_5 a0_6 a0_7 a0_8 a0_9 a0_10 a0_11 ((rd_T61 l0_4 x8_1).f0) t193 _ ?side1 ?side2 ?side3 ?side4 ?side5 ?side6 ?side7 ?side8 A7.out).mono ?_); (case side1 => exact Kd.C_below HR0_1.out (by repeat (first | (with_reducible first | exact HB.out | apply below_alloc | apply pw_below_drewN | apply below_drew1 | refine below_set ?_ GE190.out | refine below_set ?_ GE192.out) | exact HB.out))); (case side2 => exact HC0_1.out); (case side3 => exact Kd.C_below HR0_2.out (by repeat (first | (with_reducible first | exact HB.out | apply below_alloc | apply pw_below_drewN | apply below_drew1 | refine below_set ?_ GE190.out | refine below_set ?_ GE192.out) | exact HB.out))); (case side4 => exact HC0_2.out); (case side5 => exact Kd.C_below HR0_3.out (by repeat (first | (with_reducible first | exact HB.out | apply below_alloc | apply pw_below_drewN | apply below_drew1 | refine below_set ?_ GE190.out | refine below_set ?_ GE192.out) | exact HB.out))); (case side6 => exact HC0_3.out); (case side7 => exact Kd.C_below HR0_4.out (by repeat (first | (with_reducible first | exact HB.out | apply below_alloc | apply pw_below_drewN | apply below_drew1 | refine below_set ?_ GE190.out | refine below_set ?_ GE192.out) | exact HB.out))); (case side8 => exact HC0_4.out); rintro e w13 ⟨rfl, hb⟩; refine ⟨_, rfl, ?_⟩; have n0_ := Aside0.mk (blk_below (g := gb190) (o := .cells #[.int .i64 a0_0, .slice A0_1 l0_1.length c0_1, .slice A0_2 l0_2.length c0_2, .slice A0_3 l0_3.length c0_3, .slice (some ad191) l0_4.length c0_4, .int .i64 a0_5, .int .i64 a0_6, .int .i64 a0_7, .int .i64 a0_8, .int .i64 a0_9, .int .i64 a0_10, .int .i64 a0_11] 31 (0, 0)) (by (with_reducible repeat (first | refine blk_drewN ?_ _ | refine blk_drew ?_ | refine blk_alloc ?_ _)); refine blk_far ?_ NB190_192.out _; (with_reducible repeat (first | refine blk_drewN ?_ _ | refine blk_drew ?_ | refine blk_alloc ?_ _)); refine blk_far ?_ NB190_192.out _; (with_reducible repeat (first | refine blk_drewN ?_ _ | refine blk_drew ?_ | refine blk_alloc ?_ _)); refine blk_far ?_ NB190_192.out _; (with_reducible repeat (first | refine blk_drewN ?_ _ | refine blk_drew ?_ | refine blk_alloc ?_ _)); refine blk_far ?_ NB190_192.out _; (with_reducible repeat (first | refine blk_drewN ?_ _ | refine blk_drew ?_ | refine blk_alloc ?_ _)); refine blk_far ?_ NB190_192.out _; (with_reducible repeat (first | refine blk_drewN ?_ _ | refine blk_drew ?_ | refine blk_alloc ?_ _)); refine blk_far ?_ NB190_192.out _; (with_reducible repeat (first | refine blk_drewN ?_ _ | refine blk_drew ?_ | refine blk_alloc ?_ _)); exact BK190.out) hb); have n1_ := Aside0.mk (blk_below (g := gb192) (o := .cells #[.string ((rd_T61 l0_4 x8_1).f0), .string ((rd_T61 l0_4 x8_1).f1), .int .i64 ((rd_T61 l0_4 x8_1).f2.f0), .int .i64 ((rd_T61 l0_4 x8_1).f2.f1), .int .i64 ((rd_T61 l0_4 x8_1).f3), .int .i64 ((rd_T61 l0_4 x8_1).f4)] 61 (0, 0)) (by (with_reducible repeat (first | refine blk_drewN ?_ _ | refine blk_drew ?_ | refine blk_alloc ?_ _)); refine blk_put (cs := #[.string ((rd_T61 l0_4 x8_1).f0), .string ((rd_T61 l0_4 x8_1).f1), .int .i64 ((rd_T61 l0_4 x8_1).f2.f0), .int .i64 ((rd_T61 l0_4 x8_1).f2.f1), .int .i64 ((rd_T61 l0_4 x8_1).f3), .int .i64 0]) ?_ 5 _ rfl; (with_reducible repeat (first | refine blk_drewN ?_ _ | refine blk_drew ?_ | refine blk_alloc ?_ _)); refine blk_put (cs := #[.string ((rd_T61 l0_4 x8_1).f0), .string ((rd_T61 l0_4 x8_1).f1), .int .i64 ((rd_T61 l0_4 x8_1).f2.f0), .int .i64 ((rd_T61 l0_4 x8_1).f2.f1), .int .i64 0, .int .i64 0]) ?_ 4 _ rfl; (with_reducible repeat (first | refine blk_drewN ?_ _ | refine blk_drew ?_ | refine blk_alloc ?_ _)); refine blk_put (cs := #[.string ((rd_T61 l0_4 x8_1).f0), .string ((rd_T61 l0_4 x8_1).f1), .int .i64 ((rd_T61 l0_4 x8_1).f2.f0), .int .i64 0, .int .i64 0, .int .i64 0]) ?_ 3 _ rfl; (with_reducible repeat (first | refine blk_drewN ?_ _ | refine blk_drew ?_ | refine blk_alloc ?_ _)); refine blk_put (cs := #[.string ((rd_T61 l0_4 x8_1).f0), .string ((rd_T61 l0_4 x8_1).f1), .int .i64 0, .int .i64 0, .int .i64 0, .int .i64 0]) ?_ 2 _ rfl; (with_reducible repeat (first | refine blk_drewN ?_ _ | refine blk_drew ?_ | refine blk_alloc ?_ _)); refine blk_put (cs := #[.string ((rd_T61 l0_4 x8_1).f0), .string (⟨#[]⟩ : ByteArray), .int .i64 0, .int .i64 0, .int .i64 0, .int .i64 0]) ?_ 1 _ rfl; (with_reducible repeat (first | refine blk_drewN ?_ _ | refine blk_drew ?_ | refine blk_alloc ?_ _)); refine blk_put (cs := #[.string (⟨#[]⟩ : ByteArray), .string (⟨#[]⟩ : ByteArray), .int .i64 0, .int .i64 0, .int .i64 0, .int .i64 0]) ?_ 0 _ rfl; (with_reducible repeat (first | refine blk_drewN ?_ _ | refine blk_drew ?_ | refine blk_alloc ?_ _)); exact BK192.out) hb); have n2_ := Aside0.mk (below_step (by repeat (first | (with_reducible first | exact HB.out | apply below_alloc | apply pw_below_drewN | apply below_drew1 | refine below_set ?_ GE190.out | refine below_set ?_ GE192.out) | exact HB.out)) hb); clear BK190; clear BK192; clear HB; have BK190 := n0_; have BK192 := n1_; have HB := n2_; clear n0_ n1_ n2_; (try clear hb); (try clear hb2); (try clear hk); (try clear hi)))
              go_ret
              exact ⟨by first | rfl | (simp [errW_none, errW_some] <;> rfl) | (simp [*, errW_none, errW_some] <;> rfl), by repeat (first | (with_reducible first | exact HB.out | apply below_alloc | apply pw_below_drewN | apply below_drew1 | refine below_set ?_ GE190.out | refine below_set ?_ GE192.out) | exact HB.out)⟩
            · rw [if_neg c8] at H
              have c8b0 : decide (t193 < 0) = false := decide_eq_false c8
              clear c8
              have HC14 := Aside0.mk H
              clear H
              have p191 : 0 ≤ (x8_1 : Int) := of_decide_eq_true (by first | (with_reducible assumption) | assumption)
              have q191 : x8_1 < (l0_4.length : Int) := of_decide_eq_true (by first | (with_reducible assumption) | assumption)
              obtain ⟨ad191, e191, hx191_0, hx191_1, hx191_2, hx191_3, hx191_4, hx191_5⟩ := at_T61 HR0_4.out x8_1 p191 q191
              cases e191
              replace hx191_0 := (HB.out.cell (World.block_lt_of_cell? w _ hx191_0)).trans hx191_0
              replace hx191_1 := (HB.out.cell (World.block_lt_of_cell? w _ hx191_1)).trans hx191_1
              replace hx191_2 := (HB.out.cell (World.block_lt_of_cell? w _ hx191_2)).trans hx191_2
              replace hx191_3 := (HB.out.cell (World.block_lt_of_cell? w _ hx191_3)).trans hx191_3
              replace hx191_4 := (HB.out.cell (World.block_lt_of_cell? w _ hx191_4)).trans hx191_4
              replace hx191_5 := (HB.out.cell (World.block_lt_of_cell? w _ hx191_5)).trans hx191_5
              replace p191 := eq_true p191
              replace q191 := eq_true q191
              go_upto_region 6 with (first | ((with_reducible refine gate_dst (N := 4) rfl ?_); refine box_event ?hg (N := 4) ?hd (cs := #[.string (⟨#[]⟩ : ByteArray), .string (⟨#[]⟩ : ByteArray), .int .i64 0, .int .i64 0, .int .i64 0, .int .i64 0]) (t := 61) ?hr ?_; (case hd => rfl); (case hg => rfl); (case hr => first | (go_simp; done) | (go_simp; rfl)); intro gb192 hg w15 hbox hb; have n0_ := Aside0.mk (blk_below (g := gb190) (o := .cells #[.int .i64 a0_0, .slice A0_1 l0_1.length c0_1, .slice A0_2 l0_2.length c0_2, .slice A0_3 l0_3.length c0_3, .slice (some ad191) l0_4.length c0_4, .int .i64 a0_5, .int .i64 a0_6, .int .i64 a0_7, .int .i64 a0_8, .int .i64 a0_9, .int .i64 a0_10, .int .i64 a0_11] 31 (0, 0)) (by (with_reducible repeat (first | refine blk_drewN ?_ _ | refine blk_drew ?_ | refine blk_alloc ?_ _)); exact BK190.out) hb); have n1_ := Aside0.mk (below_step (by repeat (first | (with_reducible first | exact HB.out | apply below_alloc | apply pw_below_drewN | apply below_drew1 | refine below_set ?_ GE190.out) | exact HB.out)) hb); have n2_ := Aside0.mk (hbox); have n3_ := Aside0.mk ((by rw [hg]; exact (below_size (by repeat (first | (with_reducible first | exact HB.out | apply below_alloc | apply pw_below_drewN | apply below_drew1 | refine below_set ?_ GE190.out) | exact HB.out))) : w.heap.size ≤ gb192)); have n4_ := Aside0.mk ((by rw [hg]; exact (below_size (by repeat (first | (with_reducible first | exact HB.out | apply below_alloc | apply pw_below_drewN | apply below_drew1 | refine below_set ?_ GE190.out) | exact HB.out))) : w.heap.size ≤ gb192)); have n5_ := Aside0.mk ((by rw [hg]; exact Nat.ne_of_lt (blk_lt (g := gb190) (o := .cells #[.int .i64 a0_0, .slice A0_1 l0_1.length c0_1, .slice A0_2 l0_2.length c0_2, .slice A0_3 l0_3.length c0_3, .slice (some ad191) l0_4.length c0_4, .int .i64 a0_5, .int .i64 a0_6, .int .i64 a0_7, .int .i64 a0_8, .int .i64 a0_9, .int .i64 a0_10, .int .i64 a0_11] 31 (0, 0)) (by (with_reducible repeat (first | refine blk_drewN ?_ _ | refine blk_drew ?_ | refine blk_alloc ?_ _)); exact BK190.out)) : gb190 ≠ gb192)); have n6_ := Aside0.mk ((by rw [hg]; exact Nat.ne_of_gt (blk_lt (g := gb190) (o := .cells #[.int .i64 a0_0, .slice A0_1 l0_1.length c0_1, .slice A0_2 l0_2.length c0_2, .slice A0_3 l0_3.length c0_3, .slice (some ad191) l0_4.length c0_4, .int .i64 a0_5, .int .i64 a0_6, .int .i64 a0_7, .int .i64 a0_8, .int .i64 a0_9, .int .i64 a0_10, .int .i64 a0_11] 31 (0, 0)) (by (with_reducible repeat (first | refine blk_drewN ?_ _ | refine blk_drew ?_ | refine blk_alloc ?_ _)); exact BK190.out)) : gb192 ≠ gb190)); clear BK190; clear HB; have BK190 := n0_; have HB := n1_; have BK192 := n2_; have GW192 := n3_; have GE192 := n4_; have NB190_192 := n5_; have NB192_190 := n6_; clear n0_ n1_ n2_ n3_ n4_ n5_ n6_; clear hb hbox hg; have hnb16 := NB192_190.out; have hnc16 := NB190_192.out; have hcz17_0 : w15.cell? ⟨gb192, 0, none⟩ = some (.string (⟨#[]⟩ : ByteArray)) := (blk_cell BK192.out 0).trans rfl; have hcz17_1 : w15.cell? ⟨gb192, 1, none⟩ = some (.string (⟨#[]⟩ : ByteArray)) := (blk_cell BK192.out 1).trans rfl; have hcz17_2 : w15.cell? ⟨gb192, 2, none⟩ = some (.int .i64 0) := (blk_cell BK192.out 2).trans rfl; have hcz17_3 : w15.cell? ⟨gb192, 3, none⟩ = some (.int .i64 0) := (blk_cell BK192.out 3).trans rfl; have hcz17_4 : w15.cell? ⟨gb192, 4, none⟩ = some (.int .i64 0) := (blk_cell BK192.out 4).trans rfl; have hcz17_5 : w15.cell? ⟨gb192, 5, none⟩ = some (.int .i64 0) := (blk_cell BK192.out 5).trans rfl; have hfz17_0 := blk_frozen BK192.out 0; have hfz17_1 := blk_frozen BK192.out 1; have hfz17_2 := blk_frozen BK192.out 2; have hfz17_3 := blk_frozen BK192.out 3; have hfz17_4 := blk_frozen BK192.out 4; have hfz17_5 := blk_frozen BK192.out 5; have hcz18_0 : w15.cell? ⟨gb190, 0, none⟩ = some (.int .i64 a0_0) := (blk_cell BK190.out 0).trans rfl; have hcz18_1 : w15.cell? ⟨gb190, 1, none⟩ = some (.slice A0_1 l0_1.length c0_1) := (blk_cell BK190.out 1).trans rfl; have hcz18_2 : w15.cell? ⟨gb190, 2, none⟩ = some (.slice A0_2 l0_2.length c0_2) := (blk_cell BK190.out 2).trans rfl; have hcz18_3 : w15.cell? ⟨gb190, 3, none⟩ = some (.slice A0_3 l0_3.length c0_3) := (blk_cell BK190.out 3).trans rfl; have hcz18_4 : w15.cell? ⟨gb190, 4, none⟩ = some (.slice (some ad191) l0_4.length c0_4) := (blk_cell BK190.out 4).trans rfl; have hcz18_5 : w15.cell? ⟨gb190, 5, none⟩ = some (.int .i64 a0_5) := (blk_cell BK190.out 5).trans rfl; have hcz18_6 : w15.cell? ⟨gb190, 6, none⟩ = some (.int .i64 a0_6) := (blk_cell BK190.out 6).trans rfl; have hcz18_7 : w15.cell? ⟨gb190, 7, none⟩ = some (.int .i64 a0_7) := (blk_cell BK190.out 7).trans rfl; have hcz18_8 : w15.cell? ⟨gb190, 8, none⟩ = some (.int .i64 a0_8) := (blk_cell BK190.out 8).trans rfl; have hcz18_9 : w15.cell? ⟨gb190, 9, none⟩ = some (.int .i64 a0_9) := (blk_cell BK190.out 9).trans rfl; have hcz18_10 : w15.cell? ⟨gb190, 10, none⟩ = some (.int .i64 a0_10) := (blk_cell BK190.out 10).trans rfl; have hcz18_11 : w15.cell? ⟨gb190, 11, none⟩ = some (.int .i64 a0_11) := (blk_cell BK190.out 11).trans rfl; have hfz18_0 := blk_frozen BK190.out 0; have hfz18_1 := blk_frozen BK190.out 1; have hfz18_2 := blk_frozen BK190.out 2; have hfz18_3 := blk_frozen BK190.out 3; have hfz18_4 := blk_frozen BK190.out 4; have hfz18_5 := blk_frozen BK190.out 5; have hfz18_6 := blk_frozen BK190.out 6; have hfz18_7 := blk_frozen BK190.out 7; have hfz18_8 := blk_frozen BK190.out 8; have hfz18_9 := blk_frozen BK190.out 9; have hfz18_10 := blk_frozen BK190.out 10; have hfz18_11 := blk_frozen BK190.out 11) | ((with_reducible refine gate_callee (f := 80) rfl ?_); refine goesL_ (some 16) rfl rfl Try.func80 (by kernel_rfl) rfl #[.agg #[.int .i64 a0_0, .slice A0_1 l0_1.length c0_1, .slice A0_2 l0_2.length c0_2, .slice A0_3 l0_3.length c0_3, .slice (some ad191) l0_4.length c0_4, .int .i64 a0_5, .int .i64 a0_6, .int .i64 a0_7, .int .i64 a0_8, .int .i64 a0_9, .int .i64 a0_10, .int .i64 a0_11], .string ((rd_T61 l0_4 x8_1).f0)] rfl (by (try simp only [List.map_toArray, List.map_cons, List.map_nil]); first | done | rfl | (simp only [List.length_drop, List.length_take]; rfl)) ?_; (with_reducible refine (simulate_Config_index.calls a0_0 _ _ l0_1 _ _ l0_2 _ _ l0_3 _ _ l0_4 a0_5 a0_6 a0_7 a0_8 a0_9 a0_10 a0_11 ((rd_T61 l0_4 x8_1).f0) t193 _ ?side1 ?side2 ?side3 ?side4 ?side5 ?side6 ?side7 ?side8 A7.out).mono ?_); (case side1 => exact Kd.C_below HR0_1.out (by repeat (first | (with_reducible first | exact HB.out | apply below_alloc | apply pw_below_drewN | apply below_drew1 | refine below_set ?_ GE190.out | refine below_set ?_ GE192.out) | exact HB.out))); (case side2 => exact HC0_1.out); (case side3 => exact Kd.C_below HR0_2.out (by repeat (first | (with_reducible first | exact HB.out | apply below_alloc | apply pw_below_drewN | apply below_drew1 | refine below_set ?_ GE190.out | refine below_set ?_ GE192.out) | exact HB.out))); (case side4 => exact HC0_2.out); (case side5 => exact Kd.C_below HR0_3.out (by repeat (first | (with_reducible first | exact HB.out | apply below_alloc | apply pw_below_drewN | apply below_drew1 | refine below_set ?_ GE190.out | refine below_set ?_ GE192.out) | exact HB.out))); (case side6 => exact HC0_3.out); (case side7 => exact Kd.C_below HR0_4.out (by repeat (first | (with_reducible first | exact HB.out | apply below_alloc | apply pw_below_drewN | apply below_drew1 | refine below_set ?_ GE190.out | refine below_set ?_ GE192.out) | exact HB.out))); (case side8 => exact HC0_4.out); rintro e w19 ⟨rfl, hb⟩; refine ⟨_, rfl, ?_⟩; have n0_ := Aside0.mk (blk_below (g := gb190) (o := .cells #[.int .i64 a0_0, .slice A0_1 l0_1.length c0_1, .slice A0_2 l0_2.length c0_2, .slice A0_3 l0_3.length c0_3, .slice (some ad191) l0_4.length c0_4, .int .i64 a0_5, .int .i64 a0_6, .int .i64 a0_7, .int .i64 a0_8, .int .i64 a0_9, .int .i64 a0_10, .int .i64 a0_11] 31 (0, 0)) (by (with_reducible repeat (first | refine blk_drewN ?_ _ | refine blk_drew ?_ | refine blk_alloc ?_ _)); refine blk_far ?_ NB190_192.out _; (with_reducible repeat (first | refine blk_drewN ?_ _ | refine blk_drew ?_ | refine blk_alloc ?_ _)); refine blk_far ?_ NB190_192.out _; (with_reducible repeat (first | refine blk_drewN ?_ _ | refine blk_drew ?_ | refine blk_alloc ?_ _)); refine blk_far ?_ NB190_192.out _; (with_reducible repeat (first | refine blk_drewN ?_ _ | refine blk_drew ?_ | refine blk_alloc ?_ _)); refine blk_far ?_ NB190_192.out _; (with_reducible repeat (first | refine blk_drewN ?_ _ | refine blk_drew ?_ | refine blk_alloc ?_ _)); refine blk_far ?_ NB190_192.out _; (with_reducible repeat (first | refine blk_drewN ?_ _ | refine blk_drew ?_ | refine blk_alloc ?_ _)); refine blk_far ?_ NB190_192.out _; (with_reducible repeat (first | refine blk_drewN ?_ _ | refine blk_drew ?_ | refine blk_alloc ?_ _)); exact BK190.out) hb); have n1_ := Aside0.mk (blk_below (g := gb192) (o := .cells #[.string ((rd_T61 l0_4 x8_1).f0), .string ((rd_T61 l0_4 x8_1).f1), .int .i64 ((rd_T61 l0_4 x8_1).f2.f0), .int .i64 ((rd_T61 l0_4 x8_1).f2.f1), .int .i64 ((rd_T61 l0_4 x8_1).f3), .int .i64 ((rd_T61 l0_4 x8_1).f4)] 61 (0, 0)) (by (with_reducible repeat (first | refine blk_drewN ?_ _ | refine blk_drew ?_ | refine blk_alloc ?_ _)); refine blk_put (cs := #[.string ((rd_T61 l0_4 x8_1).f0), .string ((rd_T61 l0_4 x8_1).f1), .int .i64 ((rd_T61 l0_4 x8_1).f2.f0), .int .i64 ((rd_T61 l0_4 x8_1).f2.f1), .int .i64 ((rd_T61 l0_4 x8_1).f3), .int .i64 0]) ?_ 5 _ rfl; (with_reducible repeat (first | refine blk_drewN ?_ _ | refine blk_drew ?_ | refine blk_alloc ?_ _)); refine blk_put (cs := #[.string ((rd_T61 l0_4 x8_1).f0), .string ((rd_T61 l0_4 x8_1).f1), .int .i64 ((rd_T61 l0_4 x8_1).f2.f0), .int .i64 ((rd_T61 l0_4 x8_1).f2.f1), .int .i64 0, .int .i64 0]) ?_ 4 _ rfl; (with_reducible repeat (first | refine blk_drewN ?_ _ | refine blk_drew ?_ | refine blk_alloc ?_ _)); refine blk_put (cs := #[.string ((rd_T61 l0_4 x8_1).f0), .string ((rd_T61 l0_4 x8_1).f1), .int .i64 ((rd_T61 l0_4 x8_1).f2.f0), .int .i64 0, .int .i64 0, .int .i64 0]) ?_ 3 _ rfl; (with_reducible repeat (first | refine blk_drewN ?_ _ | refine blk_drew ?_ | refine blk_alloc ?_ _)); refine blk_put (cs := #[.string ((rd_T61 l0_4 x8_1).f0), .string ((rd_T61 l0_4 x8_1).f1), .int .i64 0, .int .i64 0, .int .i64 0, .int .i64 0]) ?_ 2 _ rfl; (with_reducible repeat (first | refine blk_drewN ?_ _ | refine blk_drew ?_ | refine blk_alloc ?_ _)); refine blk_put (cs := #[.string ((rd_T61 l0_4 x8_1).f0), .string (⟨#[]⟩ : ByteArray), .int .i64 0, .int .i64 0, .int .i64 0, .int .i64 0]) ?_ 1 _ rfl; (with_reducible repeat (first | refine blk_drewN ?_ _ | refine blk_drew ?_ | refine blk_alloc ?_ _)); refine blk_put (cs := #[.string (⟨#[]⟩ : ByteArray), .string (⟨#[]⟩ : ByteArray), .int .i64 0, .int .i64 0, .int .i64 0, .int .i64 0]) ?_ 0 _ rfl; (with_reducible repeat (first | refine blk_drewN ?_ _ | refine blk_drew ?_ | refine blk_alloc ?_ _)); exact BK192.out) hb); have n2_ := Aside0.mk (below_step (by repeat (first | (with_reducible first | exact HB.out | apply below_alloc | apply pw_below_drewN | apply below_drew1 | refine below_set ?_ GE190.out | refine below_set ?_ GE192.out) | exact HB.out)) hb); clear BK190; clear BK192; clear HB; have BK190 := n0_; have BK192 := n1_; have HB := n2_; clear n0_ n1_ n2_; (try clear hb); (try clear hb2); (try clear hk); (try clear hi)))
              (try simp only [Act.put, List.setIfInBounds_toArray, List.set_cons_zero, List.set_cons_succ])
              go_cut [18] (fun v18 wc => ∃ (kq : Nat) (x18_13 : Bool), v18 = .bool x18_13 ∧ Aside0 (simulate_Config_checkFaults.j1 kq l0_4 (l0_4.length : Int) x8_1 x18_13 a0_0 l0_1 l0_2 l0_3 l0_4 a0_5 a0_6 a0_7 a0_8 a0_9 a0_10 a0_11 ((rd_T61 l0_4 x8_1).f0) ((rd_T61 l0_4 x8_1).f1) ((rd_T61 l0_4 x8_1).f2.f0) ((rd_T61 l0_4 x8_1).f2.f1) ((rd_T61 l0_4 x8_1).f3) ((rd_T61 l0_4 x8_1).f4) = some r) ∧ Aside0 (kq ≤ k1) ∧ Aside0 (wc.heap[gb190]? = some (.cells #[.int .i64 a0_0, (.slice A0_1 l0_1.length c0_1), (.slice A0_2 l0_2.length c0_2), (.slice A0_3 l0_3.length c0_3), (.slice (some ad191) l0_4.length c0_4), .int .i64 a0_5, .int .i64 a0_6, .int .i64 a0_7, .int .i64 a0_8, .int .i64 a0_9, .int .i64 a0_10, .int .i64 a0_11] 31 (0, 0))) ∧ Aside0 (wc.heap[gb192]? = some (.cells #[.string ((rd_T61 l0_4 x8_1).f0), .string ((rd_T61 l0_4 x8_1).f1), .int .i64 ((rd_T61 l0_4 x8_1).f2.f0), .int .i64 ((rd_T61 l0_4 x8_1).f2.f1), .int .i64 ((rd_T61 l0_4 x8_1).f3), .int .i64 ((rd_T61 l0_4 x8_1).f4)] 61 (0, 0))) ∧ Aside0 (Below w.heap.size w wc))
              case first =>
                have H := HC14.out
                clear HC14
                by_cases c20 : ((rd_T61 l0_4 x8_1).f1).toList = ([] : List UInt8)
                · rw [if_pos c20] at H
                  have c20b0 : (((rd_T61 l0_4 x8_1).f1).toList == ([] : List UInt8)) = true := beq_iff_eq.mpr c20
                  have c20b1 : (((rd_T61 l0_4 x8_1).f1).toList != ([] : List UInt8)) = false := bne_eq_false_iff_eq.mpr c20
                  clear c20
                  (first | rw [c20b0] | (simp only [i64_w, i32_w]; rw [c20b0]) | skip)
                  have H' := Aside0.mk H
                  clear H
                  have hnb21 := NB192_190.out
                  have hnc21 := NB190_192.out
                  have hcz22_0 : w19.cell? ⟨gb192, 0, none⟩ = some (.string ((rd_T61 l0_4 x8_1).f0)) := (blk_cell BK192.out 0).trans rfl
                  have hcz22_1 : w19.cell? ⟨gb192, 1, none⟩ = some (.string ((rd_T61 l0_4 x8_1).f1)) := (blk_cell BK192.out 1).trans rfl
                  have hcz22_2 : w19.cell? ⟨gb192, 2, none⟩ = some (.int .i64 ((rd_T61 l0_4 x8_1).f2.f0)) := (blk_cell BK192.out 2).trans rfl
                  have hcz22_3 : w19.cell? ⟨gb192, 3, none⟩ = some (.int .i64 ((rd_T61 l0_4 x8_1).f2.f1)) := (blk_cell BK192.out 3).trans rfl
                  have hcz22_4 : w19.cell? ⟨gb192, 4, none⟩ = some (.int .i64 ((rd_T61 l0_4 x8_1).f3)) := (blk_cell BK192.out 4).trans rfl
                  have hcz22_5 : w19.cell? ⟨gb192, 5, none⟩ = some (.int .i64 ((rd_T61 l0_4 x8_1).f4)) := (blk_cell BK192.out 5).trans rfl
                  have hfz22_0 := blk_frozen BK192.out 0
                  have hfz22_1 := blk_frozen BK192.out 1
                  have hfz22_2 := blk_frozen BK192.out 2
                  have hfz22_3 := blk_frozen BK192.out 3
                  have hfz22_4 := blk_frozen BK192.out 4
                  have hfz22_5 := blk_frozen BK192.out 5
                  go_wp2
                  go_meet
                  case rel => exact ⟨_, (false), (by first | rfl | (simp; done) | (simp [*]; done)), H', ⟨by have := HK1.out; first | omega | exact Nat.le_refl _⟩, ⟨by (with_reducible repeat (first | refine blk_drewN ?_ _ | refine blk_drew ?_ | refine blk_alloc ?_ _)); exact BK190.out⟩, ⟨by (with_reducible repeat (first | refine blk_drewN ?_ _ | refine blk_drew ?_ | refine blk_alloc ?_ _)); exact BK192.out⟩, ⟨by repeat (first | (with_reducible first | exact HB.out | apply below_alloc | apply pw_below_drewN | apply below_drew1 | refine below_set ?_ GE190.out | refine below_set ?_ GE192.out) | exact HB.out)⟩⟩
                · rw [if_neg c20] at H
                  have c20b0 : (((rd_T61 l0_4 x8_1).f1).toList == ([] : List UInt8)) = false := beq_eq_false_iff_ne.mpr c20
                  have c20b1 : (((rd_T61 l0_4 x8_1).f1).toList != ([] : List UInt8)) = true := bne_iff_ne.mpr c20
                  (first | rw [c20b0] | (simp only [i64_w, i32_w]; rw [c20b0]) | skip)
                  replace H := Option.bind_eq_some_iff.mp H
                  obtain ⟨t194, A230, H⟩ := H
                  replace H : (simulate_Config_checkFaults.j1 k1 l0_4 (l0_4.length : Int) x8_1 (!t194) a0_0 l0_1 l0_2 l0_3 l0_4 a0_5 a0_6 a0_7 a0_8 a0_9 a0_10 a0_11 ((rd_T61 l0_4 x8_1).f0) ((rd_T61 l0_4 x8_1).f1) ((rd_T61 l0_4 x8_1).f2.f0) ((rd_T61 l0_4 x8_1).f2.f1) ((rd_T61 l0_4 x8_1).f3) ((rd_T61 l0_4 x8_1).f4)) = some r := H
                  have A23 := Aside0.mk A230
                  clear A230
                  have H' := Aside0.mk H
                  clear H
                  have hnb24 := NB192_190.out
                  have hnc24 := NB190_192.out
                  have hcz25_0 : w19.cell? ⟨gb192, 0, none⟩ = some (.string ((rd_T61 l0_4 x8_1).f0)) := (blk_cell BK192.out 0).trans rfl
                  have hcz25_1 : w19.cell? ⟨gb192, 1, none⟩ = some (.string ((rd_T61 l0_4 x8_1).f1)) := (blk_cell BK192.out 1).trans rfl
                  have hcz25_2 : w19.cell? ⟨gb192, 2, none⟩ = some (.int .i64 ((rd_T61 l0_4 x8_1).f2.f0)) := (blk_cell BK192.out 2).trans rfl
                  have hcz25_3 : w19.cell? ⟨gb192, 3, none⟩ = some (.int .i64 ((rd_T61 l0_4 x8_1).f2.f1)) := (blk_cell BK192.out 3).trans rfl
                  have hcz25_4 : w19.cell? ⟨gb192, 4, none⟩ = some (.int .i64 ((rd_T61 l0_4 x8_1).f3)) := (blk_cell BK192.out 4).trans rfl
                  have hcz25_5 : w19.cell? ⟨gb192, 5, none⟩ = some (.int .i64 ((rd_T61 l0_4 x8_1).f4)) := (blk_cell BK192.out 5).trans rfl
                  have hfz25_0 := blk_frozen BK192.out 0
                  have hfz25_1 := blk_frozen BK192.out 1
                  have hfz25_2 := blk_frozen BK192.out 2
                  have hfz25_3 := blk_frozen BK192.out 3
                  have hfz25_4 := blk_frozen BK192.out 4
                  have hfz25_5 := blk_frozen BK192.out 5
                  go_wp2_with (first | (go_at_call 51; (with_reducible refine (attribute_IsName.calls k1 ((rd_T61 l0_4 x8_1).f1) t194 _ A23.out).mono ?_); rintro e w' ⟨rfl, ⟨nd, rfl⟩⟩))
                  go_meet
                  case rel => exact ⟨_, (!t194), (by first | rfl | (simp; done) | (simp [*]; done)), H', ⟨by have := HK1.out; first | omega | exact Nat.le_refl _⟩, ⟨by (with_reducible repeat (first | refine blk_drewN ?_ _ | refine blk_drew ?_ | refine blk_alloc ?_ _)); exact BK190.out⟩, ⟨by (with_reducible repeat (first | refine blk_drewN ?_ _ | refine blk_drew ?_ | refine blk_alloc ?_ _)); exact BK192.out⟩, ⟨by repeat (first | (with_reducible first | exact HB.out | apply below_alloc | apply pw_below_drewN | apply below_drew1 | refine below_set ?_ GE190.out | refine below_set ?_ GE192.out) | exact HB.out)⟩⟩
              case rest =>
                clear HC14
                try clear c1
                try clear p1
                try clear q1
                try clear hx1
                try clear c2
                try clear p2
                try clear c4
                try clear c4b0
                try clear c5
                try clear c5b0
                try clear c6
                try clear c6b0
                try clear c8
                try clear c8b0
                try clear c10
                try clear c16
                try clear p19
                try clear q19
                try clear hx19
                try clear c20
                try clear c20b0
                try clear c20b1
                try clear c21
                try clear c24
                try clear hcz11_0
                try clear hcz11_1
                try clear hcz11_2
                try clear hcz11_3
                try clear hcz11_4
                try clear hcz11_5
                try clear hcz12_0
                try clear hcz12_1
                try clear hcz12_10
                try clear hcz12_11
                try clear hcz12_2
                try clear hcz12_3
                try clear hcz12_4
                try clear hcz12_5
                try clear hcz12_6
                try clear hcz12_7
                try clear hcz12_8
                try clear hcz12_9
                try clear hcz17_0
                try clear hcz17_1
                try clear hcz17_2
                try clear hcz17_3
                try clear hcz17_4
                try clear hcz17_5
                try clear hcz18_0
                try clear hcz18_1
                try clear hcz18_10
                try clear hcz18_11
                try clear hcz18_2
                try clear hcz18_3
                try clear hcz18_4
                try clear hcz18_5
                try clear hcz18_6
                try clear hcz18_7
                try clear hcz18_8
                try clear hcz18_9
                try clear hcz22_0
                try clear hcz22_1
                try clear hcz22_2
                try clear hcz22_3
                try clear hcz22_4
                try clear hcz22_5
                try clear hcz25_0
                try clear hcz25_1
                try clear hcz25_2
                try clear hcz25_3
                try clear hcz25_4
                try clear hcz25_5
                try clear hcz3_0
                try clear hcz3_1
                try clear hcz3_10
                try clear hcz3_11
                try clear hcz3_2
                try clear hcz3_3
                try clear hcz3_4
                try clear hcz3_5
                try clear hcz3_6
                try clear hcz3_7
                try clear hcz3_8
                try clear hcz3_9
                try clear hfz11_0
                try clear hfz11_1
                try clear hfz11_2
                try clear hfz11_3
                try clear hfz11_4
                try clear hfz11_5
                try clear hfz12_0
                try clear hfz12_1
                try clear hfz12_10
                try clear hfz12_11
                try clear hfz12_2
                try clear hfz12_3
                try clear hfz12_4
                try clear hfz12_5
                try clear hfz12_6
                try clear hfz12_7
                try clear hfz12_8
                try clear hfz12_9
                try clear hfz17_0
                try clear hfz17_1
                try clear hfz17_2
                try clear hfz17_3
                try clear hfz17_4
                try clear hfz17_5
                try clear hfz18_0
                try clear hfz18_1
                try clear hfz18_10
                try clear hfz18_11
                try clear hfz18_2
                try clear hfz18_3
                try clear hfz18_4
                try clear hfz18_5
                try clear hfz18_6
                try clear hfz18_7
                try clear hfz18_8
                try clear hfz18_9
                try clear hfz22_0
                try clear hfz22_1
                try clear hfz22_2
                try clear hfz22_3
                try clear hfz22_4
                try clear hfz22_5
                try clear hfz25_0
                try clear hfz25_1
                try clear hfz25_2
                try clear hfz25_3
                try clear hfz25_4
                try clear hfz25_5
                try clear hfz3_0
                try clear hfz3_1
                try clear hfz3_10
                try clear hfz3_11
                try clear hfz3_2
                try clear hfz3_3
                try clear hfz3_4
                try clear hfz3_5
                try clear hfz3_6
                try clear hfz3_7
                try clear hfz3_8
                try clear hfz3_9
                try clear hx191_0
                try clear hx191_1
                try clear hx191_2
                try clear hx191_3
                try clear hx191_4
                try clear hx191_5
                try clear p191
                try clear p2
                try clear q191
                obtain ⟨kq, x18_13, rfl, HA, HJ13, BK190, BK192, HB⟩ := hcut
                cases kq with
                | zero => exact absurd HA.out (by simp [simulate_Config_checkFaults.j1])
                | succ kj13 =>
                  have H := HA.out
                  clear HA
                  simp only [simulate_Config_checkFaults.j1] at H
                  by_cases c26 : x18_13 = true
                  · subst c26
                    have H1 : (some 11) = some r := by rw [if_pos rfl] at H; exact H
                    clear H
                    have H := H1
                    clear H1
                    obtain rfl := Option.some.inj H
                    go_wp2
                    go_ret
                    exact ⟨by first | rfl | (simp [errW_none, errW_some] <;> rfl) | (simp [*, errW_none, errW_some] <;> rfl), by repeat (first | (with_reducible first | exact HB.out | apply below_alloc | apply pw_below_drewN | apply below_drew1 | refine below_set ?_ GE190.out | refine below_set ?_ GE192.out) | exact HB.out)⟩
                  · replace c26 := Bool.eq_false_iff.mpr c26
                    subst c26
                    have H1 : (if ((rd_T61 l0_4 x8_1).f2.f0) < 0 then (simulate_Config_checkFaults.j2 kj13 l0_4 (l0_4.length : Int) x8_1 true a0_0 l0_1 l0_2 l0_3 l0_4 a0_5 a0_6 a0_7 a0_8 a0_9 a0_10 a0_11 ((rd_T61 l0_4 x8_1).f0) ((rd_T61 l0_4 x8_1).f1) ((rd_T61 l0_4 x8_1).f2.f0) ((rd_T61 l0_4 x8_1).f2.f1) ((rd_T61 l0_4 x8_1).f3) ((rd_T61 l0_4 x8_1).f4)) else (if ((rd_T61 l0_4 x8_1).f2.f0) ≥ ((rd_T61 l0_4 x8_1).f2.f1) then (simulate_Config_checkFaults.j2 kj13 l0_4 (l0_4.length : Int) x8_1 true a0_0 l0_1 l0_2 l0_3 l0_4 a0_5 a0_6 a0_7 a0_8 a0_9 a0_10 a0_11 ((rd_T61 l0_4 x8_1).f0) ((rd_T61 l0_4 x8_1).f1) ((rd_T61 l0_4 x8_1).f2.f0) ((rd_T61 l0_4 x8_1).f2.f1) ((rd_T61 l0_4 x8_1).f3) ((rd_T61 l0_4 x8_1).f4)) else (simulate_Config_checkFaults.j2 kj13 l0_4 (l0_4.length : Int) x8_1 (decide (((rd_T61 l0_4 x8_1).f2.f1) > 1048577)) a0_0 l0_1 l0_2 l0_3 l0_4 a0_5 a0_6 a0_7 a0_8 a0_9 a0_10 a0_11 ((rd_T61 l0_4 x8_1).f0) ((rd_T61 l0_4 x8_1).f1) ((rd_T61 l0_4 x8_1).f2.f0) ((rd_T61 l0_4 x8_1).f2.f1) ((rd_T61 l0_4 x8_1).f3) ((rd_T61 l0_4 x8_1).f4)))) = some r := by rw [if_neg (show ¬ (false = true) by decide)] at H; exact H
                    clear H
                    have H := H1
                    clear H1
                    have HC27 := Aside0.mk H
                    clear H
                    go_upto_region 8 with (fail)
                    go_cut [28] (fun v28 wc => ∃ (kq : Nat) (x28_26 : Bool), v28 = .bool x28_26 ∧ Aside0 (simulate_Config_checkFaults.j2 kq l0_4 (l0_4.length : Int) x8_1 x28_26 a0_0 l0_1 l0_2 l0_3 l0_4 a0_5 a0_6 a0_7 a0_8 a0_9 a0_10 a0_11 ((rd_T61 l0_4 x8_1).f0) ((rd_T61 l0_4 x8_1).f1) ((rd_T61 l0_4 x8_1).f2.f0) ((rd_T61 l0_4 x8_1).f2.f1) ((rd_T61 l0_4 x8_1).f3) ((rd_T61 l0_4 x8_1).f4) = some r) ∧ Aside0 (kq ≤ kj13) ∧ Aside0 (wc.heap[gb190]? = some (.cells #[.int .i64 a0_0, (.slice A0_1 l0_1.length c0_1), (.slice A0_2 l0_2.length c0_2), (.slice A0_3 l0_3.length c0_3), (.slice (some ad191) l0_4.length c0_4), .int .i64 a0_5, .int .i64 a0_6, .int .i64 a0_7, .int .i64 a0_8, .int .i64 a0_9, .int .i64 a0_10, .int .i64 a0_11] 31 (0, 0))) ∧ Aside0 (wc.heap[gb192]? = some (.cells #[.string ((rd_T61 l0_4 x8_1).f0), .string ((rd_T61 l0_4 x8_1).f1), .int .i64 ((rd_T61 l0_4 x8_1).f2.f0), .int .i64 ((rd_T61 l0_4 x8_1).f2.f1), .int .i64 ((rd_T61 l0_4 x8_1).f3), .int .i64 ((rd_T61 l0_4 x8_1).f4)] 61 (0, 0))) ∧ Aside0 (Below w.heap.size w wc))
                    case first =>
                      have H := HC27.out
                      clear HC27
                      by_cases c28 : ((rd_T61 l0_4 x8_1).f2.f0) < 0
                      · rw [if_pos c28] at H
                        have c28b0 : decide (((rd_T61 l0_4 x8_1).f2.f0) < 0) = true := decide_eq_true c28
                        clear c28
                        (first | rw [c28b0] | (simp only [i64_w, i32_w]; rw [c28b0]) | skip)
                        have H' := Aside0.mk H
                        clear H
                        have hnb29 := NB192_190.out
                        have hnc29 := NB190_192.out
                        have hcz30_0 : wc.cell? ⟨gb192, 0, none⟩ = some (.string ((rd_T61 l0_4 x8_1).f0)) := (blk_cell BK192.out 0).trans rfl
                        have hcz30_1 : wc.cell? ⟨gb192, 1, none⟩ = some (.string ((rd_T61 l0_4 x8_1).f1)) := (blk_cell BK192.out 1).trans rfl
                        have hcz30_2 : wc.cell? ⟨gb192, 2, none⟩ = some (.int .i64 ((rd_T61 l0_4 x8_1).f2.f0)) := (blk_cell BK192.out 2).trans rfl
                        have hcz30_3 : wc.cell? ⟨gb192, 3, none⟩ = some (.int .i64 ((rd_T61 l0_4 x8_1).f2.f1)) := (blk_cell BK192.out 3).trans rfl
                        have hcz30_4 : wc.cell? ⟨gb192, 4, none⟩ = some (.int .i64 ((rd_T61 l0_4 x8_1).f3)) := (blk_cell BK192.out 4).trans rfl
                        have hcz30_5 : wc.cell? ⟨gb192, 5, none⟩ = some (.int .i64 ((rd_T61 l0_4 x8_1).f4)) := (blk_cell BK192.out 5).trans rfl
                        have hfz30_0 := blk_frozen BK192.out 0
                        have hfz30_1 := blk_frozen BK192.out 1
                        have hfz30_2 := blk_frozen BK192.out 2
                        have hfz30_3 := blk_frozen BK192.out 3
                        have hfz30_4 := blk_frozen BK192.out 4
                        have hfz30_5 := blk_frozen BK192.out 5
                        go_wp2
                        go_meet
                        case rel => exact ⟨_, (true), (by first | rfl | (simp; done) | (simp [*]; done)), H', ⟨by have := HK1.out; have := HJ13.out; first | omega | exact Nat.le_refl _⟩, ⟨by (with_reducible repeat (first | refine blk_drewN ?_ _ | refine blk_drew ?_ | refine blk_alloc ?_ _)); exact BK190.out⟩, ⟨by (with_reducible repeat (first | refine blk_drewN ?_ _ | refine blk_drew ?_ | refine blk_alloc ?_ _)); exact BK192.out⟩, ⟨by repeat (first | (with_reducible first | exact HB.out | apply below_alloc | apply pw_below_drewN | apply below_drew1 | refine below_set ?_ GE190.out | refine below_set ?_ GE192.out) | exact HB.out)⟩⟩
                      · rw [if_neg c28] at H
                        have c28b0 : decide (((rd_T61 l0_4 x8_1).f2.f0) < 0) = false := decide_eq_false c28
                        clear c28
                        (first | rw [c28b0] | (simp only [i64_w, i32_w]; rw [c28b0]) | skip)
                        by_cases c31 : ((rd_T61 l0_4 x8_1).f2.f0) ≥ ((rd_T61 l0_4 x8_1).f2.f1)
                        · rw [if_pos c31] at H
                          have c31b0 : decide (((rd_T61 l0_4 x8_1).f2.f1) ≤ ((rd_T61 l0_4 x8_1).f2.f0)) = true := decide_eq_true c31
                          clear c31
                          have H' := Aside0.mk H
                          clear H
                          have hnb32 := NB192_190.out
                          have hnc32 := NB190_192.out
                          have hcz33_0 : wc.cell? ⟨gb192, 0, none⟩ = some (.string ((rd_T61 l0_4 x8_1).f0)) := (blk_cell BK192.out 0).trans rfl
                          have hcz33_1 : wc.cell? ⟨gb192, 1, none⟩ = some (.string ((rd_T61 l0_4 x8_1).f1)) := (blk_cell BK192.out 1).trans rfl
                          have hcz33_2 : wc.cell? ⟨gb192, 2, none⟩ = some (.int .i64 ((rd_T61 l0_4 x8_1).f2.f0)) := (blk_cell BK192.out 2).trans rfl
                          have hcz33_3 : wc.cell? ⟨gb192, 3, none⟩ = some (.int .i64 ((rd_T61 l0_4 x8_1).f2.f1)) := (blk_cell BK192.out 3).trans rfl
                          have hcz33_4 : wc.cell? ⟨gb192, 4, none⟩ = some (.int .i64 ((rd_T61 l0_4 x8_1).f3)) := (blk_cell BK192.out 4).trans rfl
                          have hcz33_5 : wc.cell? ⟨gb192, 5, none⟩ = some (.int .i64 ((rd_T61 l0_4 x8_1).f4)) := (blk_cell BK192.out 5).trans rfl
                          have hfz33_0 := blk_frozen BK192.out 0
                          have hfz33_1 := blk_frozen BK192.out 1
                          have hfz33_2 := blk_frozen BK192.out 2
                          have hfz33_3 := blk_frozen BK192.out 3
                          have hfz33_4 := blk_frozen BK192.out 4
                          have hfz33_5 := blk_frozen BK192.out 5
                          go_wp2
                          go_meet
                          case rel => exact ⟨_, (true), (by first | rfl | (simp; done) | (simp [*]; done)), H', ⟨by have := HK1.out; have := HJ13.out; first | omega | exact Nat.le_refl _⟩, ⟨by (with_reducible repeat (first | refine blk_drewN ?_ _ | refine blk_drew ?_ | refine blk_alloc ?_ _)); exact BK190.out⟩, ⟨by (with_reducible repeat (first | refine blk_drewN ?_ _ | refine blk_drew ?_ | refine blk_alloc ?_ _)); exact BK192.out⟩, ⟨by repeat (first | (with_reducible first | exact HB.out | apply below_alloc | apply pw_below_drewN | apply below_drew1 | refine below_set ?_ GE190.out | refine below_set ?_ GE192.out) | exact HB.out)⟩⟩
                        · rw [if_neg c31] at H
                          have c31b0 : decide (((rd_T61 l0_4 x8_1).f2.f1) ≤ ((rd_T61 l0_4 x8_1).f2.f0)) = false := decide_eq_false c31
                          clear c31
                          have H' := Aside0.mk H
                          clear H
                          have hnb34 := NB192_190.out
                          have hnc34 := NB190_192.out
                          have hcz35_0 : wc.cell? ⟨gb192, 0, none⟩ = some (.string ((rd_T61 l0_4 x8_1).f0)) := (blk_cell BK192.out 0).trans rfl
                          have hcz35_1 : wc.cell? ⟨gb192, 1, none⟩ = some (.string ((rd_T61 l0_4 x8_1).f1)) := (blk_cell BK192.out 1).trans rfl
                          have hcz35_2 : wc.cell? ⟨gb192, 2, none⟩ = some (.int .i64 ((rd_T61 l0_4 x8_1).f2.f0)) := (blk_cell BK192.out 2).trans rfl
                          have hcz35_3 : wc.cell? ⟨gb192, 3, none⟩ = some (.int .i64 ((rd_T61 l0_4 x8_1).f2.f1)) := (blk_cell BK192.out 3).trans rfl
                          have hcz35_4 : wc.cell? ⟨gb192, 4, none⟩ = some (.int .i64 ((rd_T61 l0_4 x8_1).f3)) := (blk_cell BK192.out 4).trans rfl
                          have hcz35_5 : wc.cell? ⟨gb192, 5, none⟩ = some (.int .i64 ((rd_T61 l0_4 x8_1).f4)) := (blk_cell BK192.out 5).trans rfl
                          have hfz35_0 := blk_frozen BK192.out 0
                          have hfz35_1 := blk_frozen BK192.out 1
                          have hfz35_2 := blk_frozen BK192.out 2
                          have hfz35_3 := blk_frozen BK192.out 3
                          have hfz35_4 := blk_frozen BK192.out 4
                          have hfz35_5 := blk_frozen BK192.out 5
                          go_wp2
                          go_meet
                          case rel => exact ⟨_, (decide (((rd_T61 l0_4 x8_1).f2.f1) > 1048577)), (by first | rfl | (simp; done) | (simp [*]; done)), H', ⟨by have := HK1.out; have := HJ13.out; first | omega | exact Nat.le_refl _⟩, ⟨by (with_reducible repeat (first | refine blk_drewN ?_ _ | refine blk_drew ?_ | refine blk_alloc ?_ _)); exact BK190.out⟩, ⟨by (with_reducible repeat (first | refine blk_drewN ?_ _ | refine blk_drew ?_ | refine blk_alloc ?_ _)); exact BK192.out⟩, ⟨by repeat (first | (with_reducible first | exact HB.out | apply below_alloc | apply pw_below_drewN | apply below_drew1 | refine below_set ?_ GE190.out | refine below_set ?_ GE192.out) | exact HB.out)⟩⟩
                    case rest =>
                      clear HC27
                      try clear c1
                      try clear p1
                      try clear q1
                      try clear hx1
                      try clear c2
                      try clear p2
                      try clear c3
                      try clear c4
                      try clear c4b0
                      try clear c5
                      try clear c5b0
                      try clear c6
                      try clear c6b0
                      try clear c8
                      try clear c8b0
                      try clear c10
                      try clear c16
                      try clear p19
                      try clear q19
                      try clear hx19
                      try clear c20
                      try clear c20b0
                      try clear c20b1
                      try clear c21
                      try clear c24
                      try clear c26
                      try clear c28
                      try clear c28b0
                      try clear c29
                      try clear c31
                      try clear c31b0
                      try clear c32
                      try clear c34
                      try clear hcz11_0
                      try clear hcz11_1
                      try clear hcz11_2
                      try clear hcz11_3
                      try clear hcz11_4
                      try clear hcz11_5
                      try clear hcz12_0
                      try clear hcz12_1
                      try clear hcz12_10
                      try clear hcz12_11
                      try clear hcz12_2
                      try clear hcz12_3
                      try clear hcz12_4
                      try clear hcz12_5
                      try clear hcz12_6
                      try clear hcz12_7
                      try clear hcz12_8
                      try clear hcz12_9
                      try clear hcz17_0
                      try clear hcz17_1
                      try clear hcz17_2
                      try clear hcz17_3
                      try clear hcz17_4
                      try clear hcz17_5
                      try clear hcz18_0
                      try clear hcz18_1
                      try clear hcz18_10
                      try clear hcz18_11
                      try clear hcz18_2
                      try clear hcz18_3
                      try clear hcz18_4
                      try clear hcz18_5
                      try clear hcz18_6
                      try clear hcz18_7
                      try clear hcz18_8
                      try clear hcz18_9
                      try clear hcz22_0
                      try clear hcz22_1
                      try clear hcz22_2
                      try clear hcz22_3
                      try clear hcz22_4
                      try clear hcz22_5
                      try clear hcz25_0
                      try clear hcz25_1
                      try clear hcz25_2
                      try clear hcz25_3
                      try clear hcz25_4
                      try clear hcz25_5
                      try clear hcz30_0
                      try clear hcz30_1
                      try clear hcz30_2
                      try clear hcz30_3
                      try clear hcz30_4
                      try clear hcz30_5
                      try clear hcz33_0
                      try clear hcz33_1
                      try clear hcz33_2
                      try clear hcz33_3
                      try clear hcz33_4
                      try clear hcz33_5
                      try clear hcz35_0
                      try clear hcz35_1
                      try clear hcz35_2
                      try clear hcz35_3
                      try clear hcz35_4
                      try clear hcz35_5
                      try clear hcz3_0
                      try clear hcz3_1
                      try clear hcz3_10
                      try clear hcz3_11
                      try clear hcz3_2
                      try clear hcz3_3
                      try clear hcz3_4
                      try clear hcz3_5
                      try clear hcz3_6
                      try clear hcz3_7
                      try clear hcz3_8
                      try clear hcz3_9
                      try clear hfz11_0
                      try clear hfz11_1
                      try clear hfz11_2
                      try clear hfz11_3
                      try clear hfz11_4
                      try clear hfz11_5
                      try clear hfz12_0
                      try clear hfz12_1
                      try clear hfz12_10
                      try clear hfz12_11
                      try clear hfz12_2
                      try clear hfz12_3
                      try clear hfz12_4
                      try clear hfz12_5
                      try clear hfz12_6
                      try clear hfz12_7
                      try clear hfz12_8
                      try clear hfz12_9
                      try clear hfz17_0
                      try clear hfz17_1
                      try clear hfz17_2
                      try clear hfz17_3
                      try clear hfz17_4
                      try clear hfz17_5
                      try clear hfz18_0
                      try clear hfz18_1
                      try clear hfz18_10
                      try clear hfz18_11
                      try clear hfz18_2
                      try clear hfz18_3
                      try clear hfz18_4
                      try clear hfz18_5
                      try clear hfz18_6
                      try clear hfz18_7
                      try clear hfz18_8
                      try clear hfz18_9
                      try clear hfz22_0
                      try clear hfz22_1
                      try clear hfz22_2
                      try clear hfz22_3
                      try clear hfz22_4
                      try clear hfz22_5
                      try clear hfz25_0
                      try clear hfz25_1
                      try clear hfz25_2
                      try clear hfz25_3
                      try clear hfz25_4
                      try clear hfz25_5
                      try clear hfz30_0
                      try clear hfz30_1
                      try clear hfz30_2
                      try clear hfz30_3
                      try clear hfz30_4
                      try clear hfz30_5
                      try clear hfz33_0
                      try clear hfz33_1
                      try clear hfz33_2
                      try clear hfz33_3
                      try clear hfz33_4
                      try clear hfz33_5
                      try clear hfz35_0
                      try clear hfz35_1
                      try clear hfz35_2
                      try clear hfz35_3
                      try clear hfz35_4
                      try clear hfz35_5
                      try clear hfz3_0
                      try clear hfz3_1
                      try clear hfz3_10
                      try clear hfz3_11
                      try clear hfz3_2
                      try clear hfz3_3
                      try clear hfz3_4
                      try clear hfz3_5
                      try clear hfz3_6
                      try clear hfz3_7
                      try clear hfz3_8
                      try clear hfz3_9
                      try clear hx191_0
                      try clear hx191_1
                      try clear hx191_2
                      try clear hx191_3
                      try clear hx191_4
                      try clear hx191_5
                      try clear p1
                      try clear p19
                      try clear p191
                      try clear p2
                      try clear q1
                      try clear q19
                      try clear q191
                      obtain ⟨kq, x28_26, rfl, HA, HJ26, BK190, BK192, HB⟩ := hcut
                      cases kq with
                      | zero => exact absurd HA.out (by simp [simulate_Config_checkFaults.j2])
                      | succ kj26 =>
                        have H := HA.out
                        clear HA
                        simp only [simulate_Config_checkFaults.j2] at H
                        by_cases c36 : x28_26 = true
                        · subst c36
                          have H1 : (some 32) = some r := by rw [if_pos rfl] at H; exact H
                          clear H
                          have H := H1
                          clear H1
                          obtain rfl := Option.some.inj H
                          go_wp2
                          go_ret
                          exact ⟨by first | rfl | (simp [errW_none, errW_some] <;> rfl) | (simp [*, errW_none, errW_some] <;> rfl), by repeat (first | (with_reducible first | exact HB.out | apply below_alloc | apply pw_below_drewN | apply below_drew1 | refine below_set ?_ GE190.out | refine below_set ?_ GE192.out) | exact HB.out)⟩
                        · replace c36 := Bool.eq_false_iff.mpr c36
                          subst c36
                          have H1 : ((simulate_outside.f ((rd_T61 l0_4 x8_1).f3) 0 1048576).bind fun t195 => (if t195 = true then (some 2) else ((simulate_outside.f ((rd_T61 l0_4 x8_1).f4) 0 1000000).bind fun t196 => (if t196 = true then (some 2) else (simulate_Config_checkFaults.l0 kj26 l0_4 (l0_4.length : Int) (wrap64 (x8_1 + 1)) a0_0 l0_1 l0_2 l0_3 l0_4 a0_5 a0_6 a0_7 a0_8 a0_9 a0_10 a0_11))))) = some r := by rw [if_neg (show ¬ (false = true) by decide)] at H; exact H
                          clear H
                          have H := H1
                          clear H1
                          replace H := Option.bind_eq_some_iff.mp H
                          obtain ⟨t195, A370, H⟩ := H
                          replace H : (if t195 = true then (some 2) else ((simulate_outside.f ((rd_T61 l0_4 x8_1).f4) 0 1000000).bind fun t196 => (if t196 = true then (some 2) else (simulate_Config_checkFaults.l0 kj26 l0_4 (l0_4.length : Int) (wrap64 (x8_1 + 1)) a0_0 l0_1 l0_2 l0_3 l0_4 a0_5 a0_6 a0_7 a0_8 a0_9 a0_10 a0_11)))) = some r := H
                          have A37 := Aside0.mk A370
                          clear A370
                          by_cases c38 : t195 = true
                          · subst c38
                            have H1 : (some 2) = some r := by rw [if_pos rfl] at H; exact H
                            clear H
                            have H := H1
                            clear H1
                            obtain rfl := Option.some.inj H
                            have hnb39 := NB192_190.out
                            have hnc39 := NB190_192.out
                            have hcz40_0 : wc.cell? ⟨gb192, 0, none⟩ = some (.string ((rd_T61 l0_4 x8_1).f0)) := (blk_cell BK192.out 0).trans rfl
                            have hcz40_1 : wc.cell? ⟨gb192, 1, none⟩ = some (.string ((rd_T61 l0_4 x8_1).f1)) := (blk_cell BK192.out 1).trans rfl
                            have hcz40_2 : wc.cell? ⟨gb192, 2, none⟩ = some (.int .i64 ((rd_T61 l0_4 x8_1).f2.f0)) := (blk_cell BK192.out 2).trans rfl
                            have hcz40_3 : wc.cell? ⟨gb192, 3, none⟩ = some (.int .i64 ((rd_T61 l0_4 x8_1).f2.f1)) := (blk_cell BK192.out 3).trans rfl
                            have hcz40_4 : wc.cell? ⟨gb192, 4, none⟩ = some (.int .i64 ((rd_T61 l0_4 x8_1).f3)) := (blk_cell BK192.out 4).trans rfl
                            have hcz40_5 : wc.cell? ⟨gb192, 5, none⟩ = some (.int .i64 ((rd_T61 l0_4 x8_1).f4)) := (blk_cell BK192.out 5).trans rfl
                            have hfz40_0 := blk_frozen BK192.out 0
                            have hfz40_1 := blk_frozen BK192.out 1
                            have hfz40_2 := blk_frozen BK192.out 2
                            have hfz40_3 := blk_frozen BK192.out 3
                            have hfz40_4 := blk_frozen BK192.out 4
                            have hfz40_5 := blk_frozen BK192.out 5
                            go_wp2_with (first | ((with_reducible refine gate_callee (f := 52) rfl ?_); refine goesL_ (some 51) rfl rfl Try.func52 (by kernel_rfl) rfl #[.int .i64 ((rd_T61 l0_4 x8_1).f3), .int .i64 0, .int .i64 1048576] rfl (by (try simp only [List.map_toArray, List.map_cons, List.map_nil]); first | done | rfl | (simp only [List.length_drop, List.length_take]; rfl)) ?_; (with_reducible refine (simulate_outside.calls ((rd_T61 l0_4 x8_1).f3) 0 1048576 true _ A37.out).mono ?_); rintro e w' ⟨rfl, ⟨nd, rfl⟩⟩; refine ⟨_, rfl, ?_⟩))
                            go_ret
                            exact ⟨by first | rfl | (simp [errW_none, errW_some] <;> rfl) | (simp [*, errW_none, errW_some] <;> rfl), by repeat (first | (with_reducible first | exact HB.out | apply below_alloc | apply pw_below_drewN | apply below_drew1 | refine below_set ?_ GE190.out | refine below_set ?_ GE192.out) | exact HB.out)⟩
                          · replace c38 := Bool.eq_false_iff.mpr c38
                            subst c38
                            have H1 : ((simulate_outside.f ((rd_T61 l0_4 x8_1).f4) 0 1000000).bind fun t196 => (if t196 = true then (some 2) else (simulate_Config_checkFaults.l0 kj26 l0_4 (l0_4.length : Int) (wrap64 (x8_1 + 1)) a0_0 l0_1 l0_2 l0_3 l0_4 a0_5 a0_6 a0_7 a0_8 a0_9 a0_10 a0_11))) = some r := by rw [if_neg (show ¬ (false = true) by decide)] at H; exact H
                            clear H
                            have H := H1
                            clear H1
                            replace H := Option.bind_eq_some_iff.mp H
                            obtain ⟨t196, A410, H⟩ := H
                            replace H : (if t196 = true then (some 2) else (simulate_Config_checkFaults.l0 kj26 l0_4 (l0_4.length : Int) (wrap64 (x8_1 + 1)) a0_0 l0_1 l0_2 l0_3 l0_4 a0_5 a0_6 a0_7 a0_8 a0_9 a0_10 a0_11)) = some r := H
                            have A41 := Aside0.mk A410
                            clear A410
                            by_cases c42 : t196 = true
                            · subst c42
                              have H1 : (some 2) = some r := by rw [if_pos rfl] at H; exact H
                              clear H
                              have H := H1
                              clear H1
                              obtain rfl := Option.some.inj H
                              have hnb43 := NB192_190.out
                              have hnc43 := NB190_192.out
                              have hcz44_0 : wc.cell? ⟨gb192, 0, none⟩ = some (.string ((rd_T61 l0_4 x8_1).f0)) := (blk_cell BK192.out 0).trans rfl
                              have hcz44_1 : wc.cell? ⟨gb192, 1, none⟩ = some (.string ((rd_T61 l0_4 x8_1).f1)) := (blk_cell BK192.out 1).trans rfl
                              have hcz44_2 : wc.cell? ⟨gb192, 2, none⟩ = some (.int .i64 ((rd_T61 l0_4 x8_1).f2.f0)) := (blk_cell BK192.out 2).trans rfl
                              have hcz44_3 : wc.cell? ⟨gb192, 3, none⟩ = some (.int .i64 ((rd_T61 l0_4 x8_1).f2.f1)) := (blk_cell BK192.out 3).trans rfl
                              have hcz44_4 : wc.cell? ⟨gb192, 4, none⟩ = some (.int .i64 ((rd_T61 l0_4 x8_1).f3)) := (blk_cell BK192.out 4).trans rfl
                              have hcz44_5 : wc.cell? ⟨gb192, 5, none⟩ = some (.int .i64 ((rd_T61 l0_4 x8_1).f4)) := (blk_cell BK192.out 5).trans rfl
                              have hfz44_0 := blk_frozen BK192.out 0
                              have hfz44_1 := blk_frozen BK192.out 1
                              have hfz44_2 := blk_frozen BK192.out 2
                              have hfz44_3 := blk_frozen BK192.out 3
                              have hfz44_4 := blk_frozen BK192.out 4
                              have hfz44_5 := blk_frozen BK192.out 5
                              go_wp2_with (first | ((with_reducible refine gate_callee (f := 52) rfl ?_); refine goesL_ (some 51) rfl rfl Try.func52 (by kernel_rfl) rfl #[.int .i64 ((rd_T61 l0_4 x8_1).f3), .int .i64 0, .int .i64 1048576] rfl (by (try simp only [List.map_toArray, List.map_cons, List.map_nil]); first | done | rfl | (simp only [List.length_drop, List.length_take]; rfl)) ?_; (with_reducible refine (simulate_outside.calls ((rd_T61 l0_4 x8_1).f3) 0 1048576 false _ A37.out).mono ?_); rintro e w' ⟨rfl, ⟨nd, rfl⟩⟩; refine ⟨_, rfl, ?_⟩) | (go_at_call 52; (with_reducible refine (simulate_outside.calls ((rd_T61 l0_4 x8_1).f4) 0 1000000 true _ A41.out).mono ?_); rintro e w' ⟨rfl, ⟨nd, rfl⟩⟩))
                              go_ret
                              exact ⟨by first | rfl | (simp [errW_none, errW_some] <;> rfl) | (simp [*, errW_none, errW_some] <;> rfl), by repeat (first | (with_reducible first | exact HB.out | apply below_alloc | apply pw_below_drewN | apply below_drew1 | refine below_set ?_ GE190.out | refine below_set ?_ GE192.out) | exact HB.out)⟩
                            · replace c42 := Bool.eq_false_iff.mpr c42
                              subst c42
                              have H1 : (simulate_Config_checkFaults.l0 kj26 l0_4 (l0_4.length : Int) (wrap64 (x8_1 + 1)) a0_0 l0_1 l0_2 l0_3 l0_4 a0_5 a0_6 a0_7 a0_8 a0_9 a0_10 a0_11) = some r := by rw [if_neg (show ¬ (false = true) by decide)] at H; exact H
                              clear H
                              have H := H1
                              clear H1
                              have H' := Aside0.mk H
                              clear H
                              have hnb45 := NB192_190.out
                              have hnc45 := NB190_192.out
                              have hcz46_0 : wc.cell? ⟨gb192, 0, none⟩ = some (.string ((rd_T61 l0_4 x8_1).f0)) := (blk_cell BK192.out 0).trans rfl
                              have hcz46_1 : wc.cell? ⟨gb192, 1, none⟩ = some (.string ((rd_T61 l0_4 x8_1).f1)) := (blk_cell BK192.out 1).trans rfl
                              have hcz46_2 : wc.cell? ⟨gb192, 2, none⟩ = some (.int .i64 ((rd_T61 l0_4 x8_1).f2.f0)) := (blk_cell BK192.out 2).trans rfl
                              have hcz46_3 : wc.cell? ⟨gb192, 3, none⟩ = some (.int .i64 ((rd_T61 l0_4 x8_1).f2.f1)) := (blk_cell BK192.out 3).trans rfl
                              have hcz46_4 : wc.cell? ⟨gb192, 4, none⟩ = some (.int .i64 ((rd_T61 l0_4 x8_1).f3)) := (blk_cell BK192.out 4).trans rfl
                              have hcz46_5 : wc.cell? ⟨gb192, 5, none⟩ = some (.int .i64 ((rd_T61 l0_4 x8_1).f4)) := (blk_cell BK192.out 5).trans rfl
                              have hfz46_0 := blk_frozen BK192.out 0
                              have hfz46_1 := blk_frozen BK192.out 1
                              have hfz46_2 := blk_frozen BK192.out 2
                              have hfz46_3 := blk_frozen BK192.out 3
                              have hfz46_4 := blk_frozen BK192.out 4
                              have hfz46_5 := blk_frozen BK192.out 5
                              go_wp2_with (first | ((with_reducible refine gate_callee (f := 52) rfl ?_); refine goesL_ (some 51) rfl rfl Try.func52 (by kernel_rfl) rfl #[.int .i64 ((rd_T61 l0_4 x8_1).f3), .int .i64 0, .int .i64 1048576] rfl (by (try simp only [List.map_toArray, List.map_cons, List.map_nil]); first | done | rfl | (simp only [List.length_drop, List.length_take]; rfl)) ?_; (with_reducible refine (simulate_outside.calls ((rd_T61 l0_4 x8_1).f3) 0 1048576 false _ A37.out).mono ?_); rintro e w' ⟨rfl, ⟨nd, rfl⟩⟩; refine ⟨_, rfl, ?_⟩) | (go_at_call 52; (with_reducible refine (simulate_outside.calls ((rd_T61 l0_4 x8_1).f4) 0 1000000 false _ A41.out).mono ?_); rintro e w' ⟨rfl, ⟨nd, rfl⟩⟩))
                              go_roundg kj26
                              case measure => have := HK1.out; have := HJ13.out; have := HJ26.out; omega
                              case rel => exact ⟨(wrap64 (x8_1 + 1)), (by first | rfl | (simp; done) | (simp [*]; done)), H', ⟨by have := HK1.out; have := HJ13.out; have := HJ26.out; omega⟩, ⟨by (with_reducible repeat (first | refine blk_drewN ?_ _ | refine blk_drew ?_ | refine blk_alloc ?_ _)); exact BK190.out⟩, ⟨by repeat (first | (with_reducible first | exact HB.out | apply below_alloc | apply pw_below_drewN | apply below_drew1 | refine below_set ?_ GE190.out | refine below_set ?_ GE192.out) | exact HB.out)⟩⟩
          · rw [if_neg c6] at H
            exact absurd H (by simp)
        · rw [if_neg c5] at H
          exact absurd H (by simp)
      · rw [if_neg c4] at H
        have c4b0 : decide (x8_1 < (l0_4.length : Int)) = false := decide_eq_false c4
        clear c4
        obtain rfl := Option.some.inj H
        go_wp2
        go_ret
        exact ⟨by first | rfl | (simp [errW_none, errW_some] <;> rfl) | (simp [*, errW_none, errW_some] <;> rfl), by repeat (first | (with_reducible first | exact HB.out | apply below_alloc | apply pw_below_drewN | apply below_drew1 | refine below_set ?_ GE190.out) | exact HB.out)⟩

end Go.Proofs.Ytdadnapfecmmdaa.P
