-- PRINTED by print.py (a twelfth state) out of the translation. Not trusted: Lean checks it.
import Derived.Test.YtdadnapfecmmdaaP0
import Derived.Test.YtdadnapfecmmdaaPF52
import Derived.Test.YtdadnapfecmmdaaPF38
namespace Go.Proofs.Ytdadnapfecmmdaa.P
open Go.RowKit Go.Proofs.YtdadnapfecmmdaaW.PrintWords Go.Proofs.YtdadnapfecmmdaaW.PrintLast Go.Proofs.YtdadnapfecmmdaaW.PrintMore
attribute [local go_sem] max2_int min2_int max_two min_two max_three min_three max_four min_four   -- for this text's walks alone
set_option linter.unusedVariables false
set_option linter.unusedSimpArgs false

/-! ### simulate_Config_checkOffsets: function 54 -/
mutual
def simulate_Config_checkOffsets.l0 : Nat → List (S91) → Int → Int → Int → List (S64) → List (S91) → List (S100) → List (S61) → Int → Int → Int → Int → Int → Int → Int → Option (Int)
  | 0, _, _, _, _, _, _, _, _, _, _, _, _, _, _, _ => none
  | k + 1, x10, x11, x12, x181000, x181001, x181002, x181003, x181004, x181005, x181006, x181007, x181008, x181009, x181010, x181011 => if x12 < x11 then (if 0 ≤ x12 then (if x12 < (x10.length : Int) then ((simulate_outside.f ((rd_T91 x10 x12).f0) 1 1048576).bind fun t183 => (if t183 = true then (simulate_Config_checkOffsets.j1 k x12 x10 x11 x12 true x181000 x181001 x181002 x181003 x181004 x181005 x181006 x181007 x181008 x181009 x181010 x181011 ((rd_T91 x10 x12).f0) ((rd_T91 x10 x12).f1)) else ((simulate_outside.f ((rd_T91 x10 x12).f1) (-1048576) 1048576).bind fun t184 => (simulate_Config_checkOffsets.j1 k x12 x10 x11 x12 t184 x181000 x181001 x181002 x181003 x181004 x181005 x181006 x181007 x181008 x181009 x181010 x181011 ((rd_T91 x10 x12).f0) ((rd_T91 x10 x12).f1))))) else (none)) else (none)) else (simulate_Config_checkOffsets.l1 k x181001 (x181001.length : Int) 0 x181000 x181001 x181002 x181003 x181004 x181005 x181006 x181007 x181008 x181009 x181010 x181011)
def simulate_Config_checkOffsets.j1 : Nat → Int → List (S91) → Int → Int → Bool → Int → List (S64) → List (S91) → List (S100) → List (S61) → Int → Int → Int → Int → Int → Int → Int → Int → Int → Option (Int)
  | 0, _, _, _, _, _, _, _, _, _, _, _, _, _, _, _, _, _, _, _ => none
  | k + 1, x3, x10, x11, x12, x17, x181000, x181001, x181002, x181003, x181004, x181005, x181006, x181007, x181008, x181009, x181010, x181011, x183000, x183001 => if x17 = true then (some 2) else (if x3 > 0 then (if 0 ≤ (wrap64 (x3 - 1)) then (if (wrap64 (x3 - 1)) < (x181002.length : Int) then (if x183000 ≤ ((rd_T91 x181002 (wrap64 (x3 - 1))).f0) then (some 8) else (simulate_Config_checkOffsets.l0 k x10 x11 (wrap64 (x12 + 1)) x181000 x181001 x181002 x181003 x181004 x181005 x181006 x181007 x181008 x181009 x181010 x181011)) else (none)) else (none)) else (simulate_Config_checkOffsets.l0 k x10 x11 (wrap64 (x12 + 1)) x181000 x181001 x181002 x181003 x181004 x181005 x181006 x181007 x181008 x181009 x181010 x181011))
def simulate_Config_checkOffsets.l1 : Nat → List (S64) → Int → Int → Int → List (S64) → List (S91) → List (S100) → List (S61) → Int → Int → Int → Int → Int → Int → Int → Option (Int)
  | 0, _, _, _, _, _, _, _, _, _, _, _, _, _, _, _ => none
  | k + 1, x43, x44, x45, x181000, x181001, x181002, x181003, x181004, x181005, x181006, x181007, x181008, x181009, x181010, x181011 => if x45 < x44 then (if 0 ≤ x45 then (if x45 < (x43.length : Int) then ((simulate_Config_offset.f x181000 x181001 x181002 x181003 x181004 x181005 x181006 x181007 x181008 x181009 x181010 x181011 ((rd_T64 x43 x45).f1)).bind fun bt188 => (if bt188.2 = true then (simulate_Config_checkOffsets.l1 k x43 x44 (wrap64 (x45 + 1)) x181000 x181001 x181002 x181003 x181004 x181005 x181006 x181007 x181008 x181009 x181010 x181011) else (some 34))) else (none)) else (none)) else (some 0)
end
def simulate_Config_checkOffsets.f (k : Nat) (a0_0 : Int) (l0_1 : List (S64)) (l0_2 : List (S91)) (l0_3 : List (S100)) (l0_4 : List (S61)) (a0_5 : Int) (a0_6 : Int) (a0_7 : Int) (a0_8 : Int) (a0_9 : Int) (a0_10 : Int) (a0_11 : Int) : Option (Int) := simulate_Config_checkOffsets.l0 k l0_2 (l0_2.length : Int) 0 a0_0 l0_1 l0_2 l0_3 l0_4 a0_5 a0_6 a0_7 a0_8 a0_9 a0_10 a0_11
theorem simulate_Config_checkOffsets.mono_l : ∀ k, (∀ y0 y1 y2 y3 y4 y5 y6 y7 y8 y9 y10 y11 y12 y13 y14, LeO (simulate_Config_checkOffsets.l0 k y0 y1 y2 y3 y4 y5 y6 y7 y8 y9 y10 y11 y12 y13 y14) (simulate_Config_checkOffsets.l0 (k + 1) y0 y1 y2 y3 y4 y5 y6 y7 y8 y9 y10 y11 y12 y13 y14)) ∧ (∀ y0 y1 y2 y3 y4 y5 y6 y7 y8 y9 y10 y11 y12 y13 y14 y15 y16 y17 y18, LeO (simulate_Config_checkOffsets.j1 k y0 y1 y2 y3 y4 y5 y6 y7 y8 y9 y10 y11 y12 y13 y14 y15 y16 y17 y18) (simulate_Config_checkOffsets.j1 (k + 1) y0 y1 y2 y3 y4 y5 y6 y7 y8 y9 y10 y11 y12 y13 y14 y15 y16 y17 y18)) ∧ (∀ y0 y1 y2 y3 y4 y5 y6 y7 y8 y9 y10 y11 y12 y13 y14, LeO (simulate_Config_checkOffsets.l1 k y0 y1 y2 y3 y4 y5 y6 y7 y8 y9 y10 y11 y12 y13 y14) (simulate_Config_checkOffsets.l1 (k + 1) y0 y1 y2 y3 y4 y5 y6 y7 y8 y9 y10 y11 y12 y13 y14))
  | 0 => ⟨fun _ _ _ _ _ _ _ _ _ _ _ _ _ _ _ r h => by simp [simulate_Config_checkOffsets.l0] at h, fun _ _ _ _ _ _ _ _ _ _ _ _ _ _ _ _ _ _ _ r h => by simp [simulate_Config_checkOffsets.j1] at h, fun _ _ _ _ _ _ _ _ _ _ _ _ _ _ _ r h => by simp [simulate_Config_checkOffsets.l1] at h⟩
  | k + 1 => by
    obtain ⟨ih0, ih1, ih2⟩ := simulate_Config_checkOffsets.mono_l k
    refine ⟨?_, ?_, ?_⟩
    · intro y0 y1 y2 y3 y4 y5 y6 y7 y8 y9 y10 y11 y12 y13 y14
      unfold simulate_Config_checkOffsets.l0
      repeat' first
      | (with_reducible exact ih0 _ _ _ _ _ _ _ _ _ _ _ _ _ _ _)
      | (with_reducible exact ih1 _ _ _ _ _ _ _ _ _ _ _ _ _ _ _ _ _ _ _)
      | (with_reducible exact ih2 _ _ _ _ _ _ _ _ _ _ _ _ _ _ _)
      | (with_reducible exact LeO.refl _)
      | (with_reducible exact LeO.none _)
      | (with_reducible refine LeO.ite ?_ ?_)
      | (with_reducible refine LeO.bind ?_ (fun _ => ?_))
      | exact ih0 _ _ _ _ _ _ _ _ _ _ _ _ _ _ _
      | exact ih1 _ _ _ _ _ _ _ _ _ _ _ _ _ _ _ _ _ _ _
      | exact ih2 _ _ _ _ _ _ _ _ _ _ _ _ _ _ _
      | exact LeO.none _
      | refine LeO.ite ?_ ?_
      | refine LeO.bind ?_ (fun _ => ?_)
    · intro y0 y1 y2 y3 y4 y5 y6 y7 y8 y9 y10 y11 y12 y13 y14 y15 y16 y17 y18
      unfold simulate_Config_checkOffsets.j1
      repeat' first
      | (with_reducible exact ih0 _ _ _ _ _ _ _ _ _ _ _ _ _ _ _)
      | (with_reducible exact ih1 _ _ _ _ _ _ _ _ _ _ _ _ _ _ _ _ _ _ _)
      | (with_reducible exact ih2 _ _ _ _ _ _ _ _ _ _ _ _ _ _ _)
      | (with_reducible exact LeO.refl _)
      | (with_reducible exact LeO.none _)
      | (with_reducible refine LeO.ite ?_ ?_)
      | (with_reducible refine LeO.bind ?_ (fun _ => ?_))
      | exact ih0 _ _ _ _ _ _ _ _ _ _ _ _ _ _ _
      | exact ih1 _ _ _ _ _ _ _ _ _ _ _ _ _ _ _ _ _ _ _
      | exact ih2 _ _ _ _ _ _ _ _ _ _ _ _ _ _ _
      | exact LeO.none _
      | refine LeO.ite ?_ ?_
      | refine LeO.bind ?_ (fun _ => ?_)
    · intro y0 y1 y2 y3 y4 y5 y6 y7 y8 y9 y10 y11 y12 y13 y14
      unfold simulate_Config_checkOffsets.l1
      repeat' first
      | (with_reducible exact ih0 _ _ _ _ _ _ _ _ _ _ _ _ _ _ _)
      | (with_reducible exact ih1 _ _ _ _ _ _ _ _ _ _ _ _ _ _ _ _ _ _ _)
      | (with_reducible exact ih2 _ _ _ _ _ _ _ _ _ _ _ _ _ _ _)
      | (with_reducible exact LeO.refl _)
      | (with_reducible exact LeO.none _)
      | (with_reducible refine LeO.ite ?_ ?_)
      | (with_reducible refine LeO.bind ?_ (fun _ => ?_))
      | exact ih0 _ _ _ _ _ _ _ _ _ _ _ _ _ _ _
      | exact ih1 _ _ _ _ _ _ _ _ _ _ _ _ _ _ _ _ _ _ _
      | exact ih2 _ _ _ _ _ _ _ _ _ _ _ _ _ _ _
      | exact LeO.none _
      | refine LeO.ite ?_ ?_
      | refine LeO.bind ?_ (fun _ => ?_)
theorem simulate_Config_checkOffsets.mono : ∀ a0 a1 a2 a3 a4 a5 a6 a7 a8 a9 a10 a11 k, LeO (simulate_Config_checkOffsets.f k a0 a1 a2 a3 a4 a5 a6 a7 a8 a9 a10 a11) (simulate_Config_checkOffsets.f (k + 1) a0 a1 a2 a3 a4 a5 a6 a7 a8 a9 a10 a11) := by
  intro a0 a1 a2 a3 a4 a5 a6 a7 a8 a9 a10 a11 k
  obtain ⟨ih0, ih1, ih2⟩ := simulate_Config_checkOffsets.mono_l k
  unfold simulate_Config_checkOffsets.f
  repeat' first
      | (with_reducible exact ih0 _ _ _ _ _ _ _ _ _ _ _ _ _ _ _)
      | (with_reducible exact ih1 _ _ _ _ _ _ _ _ _ _ _ _ _ _ _ _ _ _ _)
      | (with_reducible exact ih2 _ _ _ _ _ _ _ _ _ _ _ _ _ _ _)
      | (with_reducible exact LeO.refl _)
      | (with_reducible exact LeO.none _)
      | (with_reducible refine LeO.ite ?_ ?_)
      | (with_reducible refine LeO.bind ?_ (fun _ => ?_))
      | exact ih0 _ _ _ _ _ _ _ _ _ _ _ _ _ _ _
      | exact ih1 _ _ _ _ _ _ _ _ _ _ _ _ _ _ _ _ _ _ _
      | exact ih2 _ _ _ _ _ _ _ _ _ _ _ _ _ _ _
      | exact LeO.none _
      | refine LeO.ite ?_ ?_
      | refine LeO.bind ?_ (fun _ => ?_)
set_option maxHeartbeats 8000000 in
set_option maxRecDepth 100000 in
theorem simulate_Config_checkOffsets.calls (k : Nat) (a0_0 : Int) (A0_1 : Option Addr) (c0_1 : Nat) (l0_1 : List (S64)) (A0_2 : Option Addr) (c0_2 : Nat) (l0_2 : List (S91)) (A0_3 : Option Addr) (c0_3 : Nat) (l0_3 : List (S100)) (A0_4 : Option Addr) (c0_4 : Nat) (l0_4 : List (S61)) (a0_5 : Int) (a0_6 : Int) (a0_7 : Int) (a0_8 : Int) (a0_9 : Int) (a0_10 : Int) (a0_11 : Int) (r : Int) (w : World) (hr0_1 : Kd.C k64 w A0_1 l0_1.length l0_1) (hc0_1 : l0_1.length ≤ c0_1) (hr0_2 : Kd.C k91 w A0_2 l0_2.length l0_2) (hc0_2 : l0_2.length ≤ c0_2) (hr0_3 : Kd.C k100 w A0_3 l0_3.length l0_3) (hc0_3 : l0_3.length ≤ c0_3) (hr0_4 : Kd.C k61 w A0_4 l0_4.length l0_4) (hc0_4 : l0_4.length ≤ c0_4) (h : simulate_Config_checkOffsets.f k a0_0 l0_1 l0_2 l0_3 l0_4 a0_5 a0_6 a0_7 a0_8 a0_9 a0_10 a0_11 = some r) :
    Calls Try.prog 54 #[.agg #[.int .i64 a0_0, .slice A0_1 l0_1.length c0_1, .slice A0_2 l0_2.length c0_2, .slice A0_3 l0_3.length c0_3, .slice A0_4 l0_4.length c0_4, .int .i64 a0_5, .int .i64 a0_6, .int .i64 a0_7, .int .i64 a0_8, .int .i64 a0_9, .int .i64 a0_10, .int .i64 a0_11]] w fun e w' => e = .returned (.int .i64 r) ∧ Below w.heap.size w w' := by
  have hu31 := Try.underlying31
  have hu91 := Try.underlying91
  have hu64 := Try.underlying64
  have HR0_1 := Aside0.mk hr0_1
  have HC0_1 := Aside0.mk hc0_1
  clear hr0_1 hc0_1
  have HR0_2 := Aside0.mk hr0_2
  have HC0_2 := Aside0.mk hc0_2
  clear hr0_2 hc0_2
  have HR0_3 := Aside0.mk hr0_3
  have HC0_3 := Aside0.mk hc0_3
  clear hr0_3 hc0_3
  have HR0_4 := Aside0.mk hr0_4
  have HC0_4 := Aside0.mk hc0_4
  clear hr0_4 hc0_4
  have HB := Aside0.mk (Below.refl w.heap.size w)
  have H : (simulate_Config_checkOffsets.l0 k l0_2 (l0_2.length : Int) 0 a0_0 l0_1 l0_2 l0_3 l0_4 a0_5 a0_6 a0_7 a0_8 a0_9 a0_10 a0_11) = some r := h
  clear h
  have H' := Aside0.mk H
  clear H
  go_enter Try.func54, Try.ntmps54
  go_wp2_with (first | ((with_reducible refine gate_dst (N := 1) rfl ?_); refine box_event ?hg (N := 1) ?hd (cs := #[.int .i64 a0_0, .slice A0_1 l0_1.length c0_1, .slice A0_2 l0_2.length c0_2, .slice A0_3 l0_3.length c0_3, .slice A0_4 l0_4.length c0_4, .int .i64 a0_5, .int .i64 a0_6, .int .i64 a0_7, .int .i64 a0_8, .int .i64 a0_9, .int .i64 a0_10, .int .i64 a0_11]) (t := 31) ?hr ?_; (case hd => rfl); (case hg => rfl); (case hr => first | (go_simp; done) | (go_simp; rfl)); intro gb180 hg w2 hbox hb; have n0_ := Aside0.mk (below_step (by repeat (first | (with_reducible first | exact HB.out | apply below_alloc | apply pw_below_drewN | apply below_drew1) | exact HB.out)) hb); have n1_ := Aside0.mk (hbox); have n2_ := Aside0.mk ((by rw [hg]; exact (below_size (by repeat (first | (with_reducible first | exact HB.out | apply below_alloc | apply pw_below_drewN | apply below_drew1) | exact HB.out))) : w.heap.size ≤ gb180)); have n3_ := Aside0.mk ((by rw [hg]; exact (below_size (by repeat (first | (with_reducible first | exact HB.out | apply below_alloc | apply pw_below_drewN | apply below_drew1) | exact HB.out))) : w.heap.size ≤ gb180)); clear HB; have HB := n0_; have BK180 := n1_; have GW180 := n2_; have GE180 := n3_; clear n0_ n1_ n2_ n3_; clear hb hbox hg; have hcz3_0 : w2.cell? ⟨gb180, 0, none⟩ = some (.int .i64 a0_0) := (blk_cell BK180.out 0).trans rfl; have hcz3_1 : w2.cell? ⟨gb180, 1, none⟩ = some (.slice A0_1 l0_1.length c0_1) := (blk_cell BK180.out 1).trans rfl; have hcz3_2 : w2.cell? ⟨gb180, 2, none⟩ = some (.slice A0_2 l0_2.length c0_2) := (blk_cell BK180.out 2).trans rfl; have hcz3_3 : w2.cell? ⟨gb180, 3, none⟩ = some (.slice A0_3 l0_3.length c0_3) := (blk_cell BK180.out 3).trans rfl; have hcz3_4 : w2.cell? ⟨gb180, 4, none⟩ = some (.slice A0_4 l0_4.length c0_4) := (blk_cell BK180.out 4).trans rfl; have hcz3_5 : w2.cell? ⟨gb180, 5, none⟩ = some (.int .i64 a0_5) := (blk_cell BK180.out 5).trans rfl; have hcz3_6 : w2.cell? ⟨gb180, 6, none⟩ = some (.int .i64 a0_6) := (blk_cell BK180.out 6).trans rfl; have hcz3_7 : w2.cell? ⟨gb180, 7, none⟩ = some (.int .i64 a0_7) := (blk_cell BK180.out 7).trans rfl; have hcz3_8 : w2.cell? ⟨gb180, 8, none⟩ = some (.int .i64 a0_8) := (blk_cell BK180.out 8).trans rfl; have hcz3_9 : w2.cell? ⟨gb180, 9, none⟩ = some (.int .i64 a0_9) := (blk_cell BK180.out 9).trans rfl; have hcz3_10 : w2.cell? ⟨gb180, 10, none⟩ = some (.int .i64 a0_10) := (blk_cell BK180.out 10).trans rfl; have hcz3_11 : w2.cell? ⟨gb180, 11, none⟩ = some (.int .i64 a0_11) := (blk_cell BK180.out 11).trans rfl; have hfz3_0 := blk_frozen BK180.out 0; have hfz3_1 := blk_frozen BK180.out 1; have hfz3_2 := blk_frozen BK180.out 2; have hfz3_3 := blk_frozen BK180.out 3; have hfz3_4 := blk_frozen BK180.out 4; have hfz3_5 := blk_frozen BK180.out 5; have hfz3_6 := blk_frozen BK180.out 6; have hfz3_7 := blk_frozen BK180.out 7; have hfz3_8 := blk_frozen BK180.out 8; have hfz3_9 := blk_frozen BK180.out 9; have hfz3_10 := blk_frozen BK180.out 10; have hfz3_11 := blk_frozen BK180.out 11))
  repeat (go_quiet (first | ((with_reducible refine gate_dst (N := 1) rfl ?_); refine box_event ?hg (N := 1) ?hd (cs := #[.int .i64 a0_0, .slice A0_1 l0_1.length c0_1, .slice A0_2 l0_2.length c0_2, .slice A0_3 l0_3.length c0_3, .slice A0_4 l0_4.length c0_4, .int .i64 a0_5, .int .i64 a0_6, .int .i64 a0_7, .int .i64 a0_8, .int .i64 a0_9, .int .i64 a0_10, .int .i64 a0_11]) (t := 31) ?hr ?_; (case hd => rfl); (case hg => rfl); (case hr => first | (go_simp; done) | (go_simp; rfl)); intro gb180 hg w2 hbox hb; have n0_ := Aside0.mk (below_step (by repeat (first | (with_reducible first | exact HB.out | apply below_alloc | apply pw_below_drewN | apply below_drew1) | exact HB.out)) hb); have n1_ := Aside0.mk (hbox); have n2_ := Aside0.mk ((by rw [hg]; exact (below_size (by repeat (first | (with_reducible first | exact HB.out | apply below_alloc | apply pw_below_drewN | apply below_drew1) | exact HB.out))) : w.heap.size ≤ gb180)); have n3_ := Aside0.mk ((by rw [hg]; exact (below_size (by repeat (first | (with_reducible first | exact HB.out | apply below_alloc | apply pw_below_drewN | apply below_drew1) | exact HB.out))) : w.heap.size ≤ gb180)); clear HB; have HB := n0_; have BK180 := n1_; have GW180 := n2_; have GE180 := n3_; clear n0_ n1_ n2_ n3_; clear hb hbox hg; have hcz3_0 : w2.cell? ⟨gb180, 0, none⟩ = some (.int .i64 a0_0) := (blk_cell BK180.out 0).trans rfl; have hcz3_1 : w2.cell? ⟨gb180, 1, none⟩ = some (.slice A0_1 l0_1.length c0_1) := (blk_cell BK180.out 1).trans rfl; have hcz3_2 : w2.cell? ⟨gb180, 2, none⟩ = some (.slice A0_2 l0_2.length c0_2) := (blk_cell BK180.out 2).trans rfl; have hcz3_3 : w2.cell? ⟨gb180, 3, none⟩ = some (.slice A0_3 l0_3.length c0_3) := (blk_cell BK180.out 3).trans rfl; have hcz3_4 : w2.cell? ⟨gb180, 4, none⟩ = some (.slice A0_4 l0_4.length c0_4) := (blk_cell BK180.out 4).trans rfl; have hcz3_5 : w2.cell? ⟨gb180, 5, none⟩ = some (.int .i64 a0_5) := (blk_cell BK180.out 5).trans rfl; have hcz3_6 : w2.cell? ⟨gb180, 6, none⟩ = some (.int .i64 a0_6) := (blk_cell BK180.out 6).trans rfl; have hcz3_7 : w2.cell? ⟨gb180, 7, none⟩ = some (.int .i64 a0_7) := (blk_cell BK180.out 7).trans rfl; have hcz3_8 : w2.cell? ⟨gb180, 8, none⟩ = some (.int .i64 a0_8) := (blk_cell BK180.out 8).trans rfl; have hcz3_9 : w2.cell? ⟨gb180, 9, none⟩ = some (.int .i64 a0_9) := (blk_cell BK180.out 9).trans rfl; have hcz3_10 : w2.cell? ⟨gb180, 10, none⟩ = some (.int .i64 a0_10) := (blk_cell BK180.out 10).trans rfl; have hcz3_11 : w2.cell? ⟨gb180, 11, none⟩ = some (.int .i64 a0_11) := (blk_cell BK180.out 11).trans rfl; have hfz3_0 := blk_frozen BK180.out 0; have hfz3_1 := blk_frozen BK180.out 1; have hfz3_2 := blk_frozen BK180.out 2; have hfz3_3 := blk_frozen BK180.out 3; have hfz3_4 := blk_frozen BK180.out 4; have hfz3_5 := blk_frozen BK180.out 5; have hfz3_6 := blk_frozen BK180.out 6; have hfz3_7 := blk_frozen BK180.out 7; have hfz3_8 := blk_frozen BK180.out 8; have hfz3_9 := blk_frozen BK180.out 9; have hfz3_10 := blk_frozen BK180.out 10; have hfz3_11 := blk_frozen BK180.out 11)); try go_wp2_with (first | ((with_reducible refine gate_dst (N := 1) rfl ?_); refine box_event ?hg (N := 1) ?hd (cs := #[.int .i64 a0_0, .slice A0_1 l0_1.length c0_1, .slice A0_2 l0_2.length c0_2, .slice A0_3 l0_3.length c0_3, .slice A0_4 l0_4.length c0_4, .int .i64 a0_5, .int .i64 a0_6, .int .i64 a0_7, .int .i64 a0_8, .int .i64 a0_9, .int .i64 a0_10, .int .i64 a0_11]) (t := 31) ?hr ?_; (case hd => rfl); (case hg => rfl); (case hr => first | (go_simp; done) | (go_simp; rfl)); intro gb180 hg w2 hbox hb; have n0_ := Aside0.mk (below_step (by repeat (first | (with_reducible first | exact HB.out | apply below_alloc | apply pw_below_drewN | apply below_drew1) | exact HB.out)) hb); have n1_ := Aside0.mk (hbox); have n2_ := Aside0.mk ((by rw [hg]; exact (below_size (by repeat (first | (with_reducible first | exact HB.out | apply below_alloc | apply pw_below_drewN | apply below_drew1) | exact HB.out))) : w.heap.size ≤ gb180)); have n3_ := Aside0.mk ((by rw [hg]; exact (below_size (by repeat (first | (with_reducible first | exact HB.out | apply below_alloc | apply pw_below_drewN | apply below_drew1) | exact HB.out))) : w.heap.size ≤ gb180)); clear HB; have HB := n0_; have BK180 := n1_; have GW180 := n2_; have GE180 := n3_; clear n0_ n1_ n2_ n3_; clear hb hbox hg; have hcz3_0 : w2.cell? ⟨gb180, 0, none⟩ = some (.int .i64 a0_0) := (blk_cell BK180.out 0).trans rfl; have hcz3_1 : w2.cell? ⟨gb180, 1, none⟩ = some (.slice A0_1 l0_1.length c0_1) := (blk_cell BK180.out 1).trans rfl; have hcz3_2 : w2.cell? ⟨gb180, 2, none⟩ = some (.slice A0_2 l0_2.length c0_2) := (blk_cell BK180.out 2).trans rfl; have hcz3_3 : w2.cell? ⟨gb180, 3, none⟩ = some (.slice A0_3 l0_3.length c0_3) := (blk_cell BK180.out 3).trans rfl; have hcz3_4 : w2.cell? ⟨gb180, 4, none⟩ = some (.slice A0_4 l0_4.length c0_4) := (blk_cell BK180.out 4).trans rfl; have hcz3_5 : w2.cell? ⟨gb180, 5, none⟩ = some (.int .i64 a0_5) := (blk_cell BK180.out 5).trans rfl; have hcz3_6 : w2.cell? ⟨gb180, 6, none⟩ = some (.int .i64 a0_6) := (blk_cell BK180.out 6).trans rfl; have hcz3_7 : w2.cell? ⟨gb180, 7, none⟩ = some (.int .i64 a0_7) := (blk_cell BK180.out 7).trans rfl; have hcz3_8 : w2.cell? ⟨gb180, 8, none⟩ = some (.int .i64 a0_8) := (blk_cell BK180.out 8).trans rfl; have hcz3_9 : w2.cell? ⟨gb180, 9, none⟩ = some (.int .i64 a0_9) := (blk_cell BK180.out 9).trans rfl; have hcz3_10 : w2.cell? ⟨gb180, 10, none⟩ = some (.int .i64 a0_10) := (blk_cell BK180.out 10).trans rfl; have hcz3_11 : w2.cell? ⟨gb180, 11, none⟩ = some (.int .i64 a0_11) := (blk_cell BK180.out 11).trans rfl; have hfz3_0 := blk_frozen BK180.out 0; have hfz3_1 := blk_frozen BK180.out 1; have hfz3_2 := blk_frozen BK180.out 2; have hfz3_3 := blk_frozen BK180.out 3; have hfz3_4 := blk_frozen BK180.out 4; have hfz3_5 := blk_frozen BK180.out 5; have hfz3_6 := blk_frozen BK180.out 6; have hfz3_7 := blk_frozen BK180.out 7; have hfz3_8 := blk_frozen BK180.out 8; have hfz3_9 := blk_frozen BK180.out 9; have hfz3_10 := blk_frozen BK180.out 10; have hfz3_11 := blk_frozen BK180.out 11)))
  go_loopg [12] k (fun kq v12 w' => ∃ (x12_1 : Int), v12 = .int .i64 x12_1 ∧ Aside0 (simulate_Config_checkOffsets.l0 kq l0_2 (l0_2.length : Int) x12_1 a0_0 l0_1 l0_2 l0_3 l0_4 a0_5 a0_6 a0_7 a0_8 a0_9 a0_10 a0_11 = some r) ∧ Aside0 (kq ≤ k) ∧ Aside0 (w'.heap[gb180]? = some (.cells #[.int .i64 a0_0, (.slice A0_1 l0_1.length c0_1), (.slice A0_2 l0_2.length c0_2), (.slice A0_3 l0_3.length c0_3), (.slice A0_4 l0_4.length c0_4), .int .i64 a0_5, .int .i64 a0_6, .int .i64 a0_7, .int .i64 a0_8, .int .i64 a0_9, .int .i64 a0_10, .int .i64 a0_11] 31 (0, 0))) ∧ Aside0 (Below w.heap.size w w'))
  case atStart => exact ⟨(0), (by first | rfl | (simp; done) | (simp [*]; done)), H', ⟨Nat.le_refl _⟩, ⟨by (with_reducible repeat (first | refine blk_drewN ?_ _ | refine blk_drew ?_ | refine blk_alloc ?_ _)); exact BK180.out⟩, ⟨by repeat (first | (with_reducible first | exact HB.out | apply below_alloc | apply pw_below_drewN | apply below_drew1 | refine below_set ?_ GE180.out) | exact HB.out)⟩⟩
  case round =>
    clear H'
    try clear p2
    try clear hcz3_0
    try clear hcz3_1
    try clear hcz3_10
    try clear hcz3_11
    try clear hcz3_2
    try clear hcz3_3
    try clear hcz3_4
    try clear hcz3_5
    try clear hcz3_6
    try clear hcz3_7
    try clear hcz3_8
    try clear hcz3_9
    try clear hfz3_0
    try clear hfz3_1
    try clear hfz3_10
    try clear hfz3_11
    try clear hfz3_2
    try clear hfz3_3
    try clear hfz3_4
    try clear hfz3_5
    try clear hfz3_6
    try clear hfz3_7
    try clear hfz3_8
    try clear hfz3_9
    obtain ⟨x12_1, rfl, HA, HK1, BK180, HB⟩ := hrel
    cases gk with
    | zero => exact absurd HA.out (by simp [simulate_Config_checkOffsets.l0])
    | succ k1 =>
      have H := HA.out
      clear HA
      simp only [simulate_Config_checkOffsets.l0] at H
      by_cases c4 : x12_1 < (l0_2.length : Int)
      · rw [if_pos c4] at H
        have c4b0 : decide (x12_1 < (l0_2.length : Int)) = true := decide_eq_true c4
        clear c4
        by_cases c5 : 0 ≤ x12_1
        · rw [if_pos c5] at H
          have c5b0 : decide (0 ≤ x12_1) = true := decide_eq_true c5
          clear c5
          by_cases c6 : x12_1 < (l0_2.length : Int)
          · rw [if_pos c6] at H
            have c6b0 : decide (x12_1 < (l0_2.length : Int)) = true := decide_eq_true c6
            clear c6
            have HC7 := Aside0.mk H
            clear H
            have p181 : 0 ≤ (x12_1 : Int) := of_decide_eq_true (by first | (with_reducible assumption) | assumption)
            have q181 : x12_1 < (l0_2.length : Int) := of_decide_eq_true (by first | (with_reducible assumption) | assumption)
            obtain ⟨ad181, e181, hx181_0, hx181_1⟩ := at_T91 HR0_2.out x12_1 p181 q181
            cases e181
            replace hx181_0 := (HB.out.cell (World.block_lt_of_cell? w _ hx181_0)).trans hx181_0
            replace hx181_1 := (HB.out.cell (World.block_lt_of_cell? w _ hx181_1)).trans hx181_1
            replace p181 := eq_true p181
            replace q181 := eq_true q181
            go_upto_region 4 with (first | ((with_reducible refine gate_dst (N := 4) rfl ?_); refine box_event ?hg (N := 4) ?hd (cs := #[.int .i64 0, .int .i64 0]) (t := 91) ?hr ?_; (case hd => rfl); (case hg => rfl); (case hr => first | (go_simp; done) | (go_simp; rfl)); intro gb182 hg w8 hbox hb; have n0_ := Aside0.mk (blk_below (g := gb180) (o := .cells #[.int .i64 a0_0, .slice A0_1 l0_1.length c0_1, .slice (some ad181) l0_2.length c0_2, .slice A0_3 l0_3.length c0_3, .slice A0_4 l0_4.length c0_4, .int .i64 a0_5, .int .i64 a0_6, .int .i64 a0_7, .int .i64 a0_8, .int .i64 a0_9, .int .i64 a0_10, .int .i64 a0_11] 31 (0, 0)) (by (with_reducible repeat (first | refine blk_drewN ?_ _ | refine blk_drew ?_ | refine blk_alloc ?_ _)); exact BK180.out) hb); have n1_ := Aside0.mk (below_step (by repeat (first | (with_reducible first | exact HB.out | apply below_alloc | apply pw_below_drewN | apply below_drew1 | refine below_set ?_ GE180.out) | exact HB.out)) hb); have n2_ := Aside0.mk (hbox); have n3_ := Aside0.mk ((by rw [hg]; exact (below_size (by repeat (first | (with_reducible first | exact HB.out | apply below_alloc | apply pw_below_drewN | apply below_drew1 | refine below_set ?_ GE180.out) | exact HB.out))) : w.heap.size ≤ gb182)); have n4_ := Aside0.mk ((by rw [hg]; exact (below_size (by repeat (first | (with_reducible first | exact HB.out | apply below_alloc | apply pw_below_drewN | apply below_drew1 | refine below_set ?_ GE180.out) | exact HB.out))) : w.heap.size ≤ gb182)); have n5_ := Aside0.mk ((by rw [hg]; exact Nat.ne_of_lt (blk_lt (g := gb180) (o := .cells #[.int .i64 a0_0, .slice A0_1 l0_1.length c0_1, .slice (some ad181) l0_2.length c0_2, .slice A0_3 l0_3.length c0_3, .slice A0_4 l0_4.length c0_4, .int .i64 a0_5, .int .i64 a0_6, .int .i64 a0_7, .int .i64 a0_8, .int .i64 a0_9, .int .i64 a0_10, .int .i64 a0_11] 31 (0, 0)) (by (with_reducible repeat (first | refine blk_drewN ?_ _ | refine blk_drew ?_ | refine blk_alloc ?_ _)); exact BK180.out)) : gb180 ≠ gb182)); have n6_ := Aside0.mk ((by rw [hg]; exact Nat.ne_of_gt (blk_lt (g := gb180) (o := .cells #[.int .i64 a0_0, .slice A0_1 l0_1.length c0_1, .slice (some ad181) l0_2.length c0_2, .slice A0_3 l0_3.length c0_3, .slice A0_4 l0_4.length c0_4, .int .i64 a0_5, .int .i64 a0_6, .int .i64 a0_7, .int .i64 a0_8, .int .i64 a0_9, .int .i64 a0_10, .int .i64 a0_11] 31 (0, 0)) (by (with_reducible repeat (first | refine blk_drewN ?_ _ | refine blk_drew ?_ | refine blk_alloc ?_ _)); exact BK180.out)) : gb182 ≠ gb180)); clear BK180; clear HB; have BK180 := n0_; have HB := n1_; have BK182 := n2_; have GW182 := n3_; have GE182 := n4_; have NB180_182 := n5_; have NB182_180 := n6_; clear n0_ n1_ n2_ n3_ n4_ n5_ n6_; clear hb hbox hg; have hnb9 := NB182_180.out; have hnc9 := NB180_182.out; have hcz10_0 : w8.cell? ⟨gb182, 0, none⟩ = some (.int .i64 0) := (blk_cell BK182.out 0).trans rfl; have hcz10_1 : w8.cell? ⟨gb182, 1, none⟩ = some (.int .i64 0) := (blk_cell BK182.out 1).trans rfl; have hfz10_0 := blk_frozen BK182.out 0; have hfz10_1 := blk_frozen BK182.out 1))
            repeat (go_quiet (first | ((with_reducible refine gate_dst (N := 4) rfl ?_); refine box_event ?hg (N := 4) ?hd (cs := #[.int .i64 0, .int .i64 0]) (t := 91) ?hr ?_; (case hd => rfl); (case hg => rfl); (case hr => first | (go_simp; done) | (go_simp; rfl)); intro gb182 hg w8 hbox hb; have n0_ := Aside0.mk (blk_below (g := gb180) (o := .cells #[.int .i64 a0_0, .slice A0_1 l0_1.length c0_1, .slice (some ad181) l0_2.length c0_2, .slice A0_3 l0_3.length c0_3, .slice A0_4 l0_4.length c0_4, .int .i64 a0_5, .int .i64 a0_6, .int .i64 a0_7, .int .i64 a0_8, .int .i64 a0_9, .int .i64 a0_10, .int .i64 a0_11] 31 (0, 0)) (by (with_reducible repeat (first | refine blk_drewN ?_ _ | refine blk_drew ?_ | refine blk_alloc ?_ _)); exact BK180.out) hb); have n1_ := Aside0.mk (below_step (by repeat (first | (with_reducible first | exact HB.out | apply below_alloc | apply pw_below_drewN | apply below_drew1 | refine below_set ?_ GE180.out) | exact HB.out)) hb); have n2_ := Aside0.mk (hbox); have n3_ := Aside0.mk ((by rw [hg]; exact (below_size (by repeat (first | (with_reducible first | exact HB.out | apply below_alloc | apply pw_below_drewN | apply below_drew1 | refine below_set ?_ GE180.out) | exact HB.out))) : w.heap.size ≤ gb182)); have n4_ := Aside0.mk ((by rw [hg]; exact (below_size (by repeat (first | (with_reducible first | exact HB.out | apply below_alloc | apply pw_below_drewN | apply below_drew1 | refine below_set ?_ GE180.out) | exact HB.out))) : w.heap.size ≤ gb182)); have n5_ := Aside0.mk ((by rw [hg]; exact Nat.ne_of_lt (blk_lt (g := gb180) (o := .cells #[.int .i64 a0_0, .slice A0_1 l0_1.length c0_1, .slice (some ad181) l0_2.length c0_2, .slice A0_3 l0_3.length c0_3, .slice A0_4 l0_4.length c0_4, .int .i64 a0_5, .int .i64 a0_6, .int .i64 a0_7, .int .i64 a0_8, .int .i64 a0_9, .int .i64 a0_10, .int .i64 a0_11] 31 (0, 0)) (by (with_reducible repeat (first | refine blk_drewN ?_ _ | refine blk_drew ?_ | refine blk_alloc ?_ _)); exact BK180.out)) : gb180 ≠ gb182)); have n6_ := Aside0.mk ((by rw [hg]; exact Nat.ne_of_gt (blk_lt (g := gb180) (o := .cells #[.int .i64 a0_0, .slice A0_1 l0_1.length c0_1, .slice (some ad181) l0_2.length c0_2, .slice A0_3 l0_3.length c0_3, .slice A0_4 l0_4.length c0_4, .int .i64 a0_5, .int .i64 a0_6, .int .i64 a0_7, .int .i64 a0_8, .int .i64 a0_9, .int .i64 a0_10, .int .i64 a0_11] 31 (0, 0)) (by (with_reducible repeat (first | refine blk_drewN ?_ _ | refine blk_drew ?_ | refine blk_alloc ?_ _)); exact BK180.out)) : gb182 ≠ gb180)); clear BK180; clear HB; have BK180 := n0_; have HB := n1_; have BK182 := n2_; have GW182 := n3_; have GE182 := n4_; have NB180_182 := n5_; have NB182_180 := n6_; clear n0_ n1_ n2_ n3_ n4_ n5_ n6_; clear hb hbox hg; have hnb9 := NB182_180.out; have hnc9 := NB180_182.out; have hcz10_0 : w8.cell? ⟨gb182, 0, none⟩ = some (.int .i64 0) := (blk_cell BK182.out 0).trans rfl; have hcz10_1 : w8.cell? ⟨gb182, 1, none⟩ = some (.int .i64 0) := (blk_cell BK182.out 1).trans rfl; have hfz10_0 := blk_frozen BK182.out 0; have hfz10_1 := blk_frozen BK182.out 1)); go_upto_region 4 with (first | ((with_reducible refine gate_dst (N := 4) rfl ?_); refine box_event ?hg (N := 4) ?hd (cs := #[.int .i64 0, .int .i64 0]) (t := 91) ?hr ?_; (case hd => rfl); (case hg => rfl); (case hr => first | (go_simp; done) | (go_simp; rfl)); intro gb182 hg w8 hbox hb; have n0_ := Aside0.mk (blk_below (g := gb180) (o := .cells #[.int .i64 a0_0, .slice A0_1 l0_1.length c0_1, .slice (some ad181) l0_2.length c0_2, .slice A0_3 l0_3.length c0_3, .slice A0_4 l0_4.length c0_4, .int .i64 a0_5, .int .i64 a0_6, .int .i64 a0_7, .int .i64 a0_8, .int .i64 a0_9, .int .i64 a0_10, .int .i64 a0_11] 31 (0, 0)) (by (with_reducible repeat (first | refine blk_drewN ?_ _ | refine blk_drew ?_ | refine blk_alloc ?_ _)); exact BK180.out) hb); have n1_ := Aside0.mk (below_step (by repeat (first | (with_reducible first | exact HB.out | apply below_alloc | apply pw_below_drewN | apply below_drew1 | refine below_set ?_ GE180.out) | exact HB.out)) hb); have n2_ := Aside0.mk (hbox); have n3_ := Aside0.mk ((by rw [hg]; exact (below_size (by repeat (first | (with_reducible first | exact HB.out | apply below_alloc | apply pw_below_drewN | apply below_drew1 | refine below_set ?_ GE180.out) | exact HB.out))) : w.heap.size ≤ gb182)); have n4_ := Aside0.mk ((by rw [hg]; exact (below_size (by repeat (first | (with_reducible first | exact HB.out | apply below_alloc | apply pw_below_drewN | apply below_drew1 | refine below_set ?_ GE180.out) | exact HB.out))) : w.heap.size ≤ gb182)); have n5_ := Aside0.mk ((by rw [hg]; exact Nat.ne_of_lt (blk_lt (g := gb180) (o := .cells #[.int .i64 a0_0, .slice A0_1 l0_1.length c0_1, .slice (some ad181) l0_2.length c0_2, .slice A0_3 l0_3.length c0_3, .slice A0_4 l0_4.length c0_4, .int .i64 a0_5, .int .i64 a0_6, .int .i64 a0_7, .int .i64 a0_8, .int .i64 a0_9, .int .i64 a0_10, .int .i64 a0_11] 31 (0, 0)) (by (with_reducible repeat (first | refine blk_drewN ?_ _ | refine blk_drew ?_ | refine blk_alloc ?_ _)); exact BK180.out)) : gb180 ≠ gb182)); have n6_ := Aside0.mk ((by rw [hg]; exact Nat.ne_of_gt (blk_lt (g := gb180) (o := .cells #[.int .i64 a0_0, .slice A0_1 l0_1.length c0_1, .slice (some ad181) l0_2.length c0_2, .slice A0_3 l0_3.length c0_3, .slice A0_4 l0_4.length c0_4, .int .i64 a0_5, .int .i64 a0_6, .int .i64 a0_7, .int .i64 a0_8, .int .i64 a0_9, .int .i64 a0_10, .int .i64 a0_11] 31 (0, 0)) (by (with_reducible repeat (first | refine blk_drewN ?_ _ | refine blk_drew ?_ | refine blk_alloc ?_ _)); exact BK180.out)) : gb182 ≠ gb180)); clear BK180; clear HB; have BK180 := n0_; have HB := n1_; have BK182 := n2_; have GW182 := n3_; have GE182 := n4_; have NB180_182 := n5_; have NB182_180 := n6_; clear n0_ n1_ n2_ n3_ n4_ n5_ n6_; clear hb hbox hg; have hnb9 := NB182_180.out; have hnc9 := NB180_182.out; have hcz10_0 : w8.cell? ⟨gb182, 0, none⟩ = some (.int .i64 0) := (blk_cell BK182.out 0).trans rfl; have hcz10_1 : w8.cell? ⟨gb182, 1, none⟩ = some (.int .i64 0) := (blk_cell BK182.out 1).trans rfl; have hfz10_0 := blk_frozen BK182.out 0; have hfz10_1 := blk_frozen BK182.out 1)))
            (try simp only [Act.put, List.setIfInBounds_toArray, List.set_cons_zero, List.set_cons_succ])
            go_cut [17] (fun v17 wc => ∃ (kq : Nat) (x17_6 : Bool), v17 = .bool x17_6 ∧ Aside0 (simulate_Config_checkOffsets.j1 kq x12_1 l0_2 (l0_2.length : Int) x12_1 x17_6 a0_0 l0_1 l0_2 l0_3 l0_4 a0_5 a0_6 a0_7 a0_8 a0_9 a0_10 a0_11 ((rd_T91 l0_2 x12_1).f0) ((rd_T91 l0_2 x12_1).f1) = some r) ∧ Aside0 (kq ≤ k1) ∧ Aside0 (wc.heap[gb180]? = some (.cells #[.int .i64 a0_0, (.slice A0_1 l0_1.length c0_1), (.slice (some ad181) l0_2.length c0_2), (.slice A0_3 l0_3.length c0_3), (.slice A0_4 l0_4.length c0_4), .int .i64 a0_5, .int .i64 a0_6, .int .i64 a0_7, .int .i64 a0_8, .int .i64 a0_9, .int .i64 a0_10, .int .i64 a0_11] 31 (0, 0))) ∧ Aside0 (wc.heap[gb182]? = some (.cells #[.int .i64 ((rd_T91 l0_2 x12_1).f0), .int .i64 ((rd_T91 l0_2 x12_1).f1)] 91 (0, 0))) ∧ Aside0 (Below w.heap.size w wc))
            case first =>
              have H := HC7.out
              clear HC7
              replace H := Option.bind_eq_some_iff.mp H
              obtain ⟨t183, A110, H⟩ := H
              replace H : (if t183 = true then (simulate_Config_checkOffsets.j1 k1 x12_1 l0_2 (l0_2.length : Int) x12_1 true a0_0 l0_1 l0_2 l0_3 l0_4 a0_5 a0_6 a0_7 a0_8 a0_9 a0_10 a0_11 ((rd_T91 l0_2 x12_1).f0) ((rd_T91 l0_2 x12_1).f1)) else ((simulate_outside.f ((rd_T91 l0_2 x12_1).f1) (-1048576) 1048576).bind fun t184 => (simulate_Config_checkOffsets.j1 k1 x12_1 l0_2 (l0_2.length : Int) x12_1 t184 a0_0 l0_1 l0_2 l0_3 l0_4 a0_5 a0_6 a0_7 a0_8 a0_9 a0_10 a0_11 ((rd_T91 l0_2 x12_1).f0) ((rd_T91 l0_2 x12_1).f1)))) = some r := H
              have A11 := Aside0.mk A110
              clear A110
              by_cases c12 : t183 = true
              · subst c12
                have H1 : (simulate_Config_checkOffsets.j1 k1 x12_1 l0_2 (l0_2.length : Int) x12_1 true a0_0 l0_1 l0_2 l0_3 l0_4 a0_5 a0_6 a0_7 a0_8 a0_9 a0_10 a0_11 ((rd_T91 l0_2 x12_1).f0) ((rd_T91 l0_2 x12_1).f1)) = some r := by rw [if_pos rfl] at H; exact H
                clear H
                have H := H1
                clear H1
                have H' := Aside0.mk H
                clear H
                have hnb13 := NB182_180.out
                have hnc13 := NB180_182.out
                have hcz14_0 : w8.cell? ⟨gb182, 0, none⟩ = some (.int .i64 0) := (blk_cell BK182.out 0).trans rfl
                have hcz14_1 : w8.cell? ⟨gb182, 1, none⟩ = some (.int .i64 0) := (blk_cell BK182.out 1).trans rfl
                have hfz14_0 := blk_frozen BK182.out 0
                have hfz14_1 := blk_frozen BK182.out 1
                go_wp2_with (first | (go_at_call 52; (with_reducible refine (simulate_outside.calls ((rd_T91 l0_2 x12_1).f0) 1 1048576 true _ A11.out).mono ?_); rintro e w' ⟨rfl, ⟨nd, rfl⟩⟩; (try first | exact ⟨rfl, _, World.drewN_drewN _ _ _⟩ | exact ⟨rfl, _, Eq.trans (World.drewN_drewN _ _ _) (congrArg (World.drewN _) (Nat.add_assoc _ _ _))⟩)))
                repeat (go_quiet (first | (go_at_call 52; (with_reducible refine (simulate_outside.calls ((rd_T91 l0_2 x12_1).f0) 1 1048576 true _ A11.out).mono ?_); rintro e w' ⟨rfl, ⟨nd, rfl⟩⟩; (try first | exact ⟨rfl, _, World.drewN_drewN _ _ _⟩ | exact ⟨rfl, _, Eq.trans (World.drewN_drewN _ _ _) (congrArg (World.drewN _) (Nat.add_assoc _ _ _))⟩))); try go_wp2_with (first | (go_at_call 52; (with_reducible refine (simulate_outside.calls ((rd_T91 l0_2 x12_1).f0) 1 1048576 true _ A11.out).mono ?_); rintro e w' ⟨rfl, ⟨nd, rfl⟩⟩; (try first | exact ⟨rfl, _, World.drewN_drewN _ _ _⟩ | exact ⟨rfl, _, Eq.trans (World.drewN_drewN _ _ _) (congrArg (World.drewN _) (Nat.add_assoc _ _ _))⟩))))
                go_meet
                case rel => exact ⟨_, (true), (by first | rfl | (simp; done) | (simp [*]; done)), H', ⟨by have := HK1.out; first | omega | exact Nat.le_refl _⟩, ⟨by (with_reducible repeat (first | refine blk_drewN ?_ _ | refine blk_drew ?_ | refine blk_alloc ?_ _)); refine blk_far ?_ NB180_182.out _; (with_reducible repeat (first | refine blk_drewN ?_ _ | refine blk_drew ?_ | refine blk_alloc ?_ _)); refine blk_far ?_ NB180_182.out _; (with_reducible repeat (first | refine blk_drewN ?_ _ | refine blk_drew ?_ | refine blk_alloc ?_ _)); exact BK180.out⟩, ⟨by (with_reducible repeat (first | refine blk_drewN ?_ _ | refine blk_drew ?_ | refine blk_alloc ?_ _)); refine blk_put (cs := #[.int .i64 ((rd_T91 l0_2 x12_1).f0), .int .i64 0]) ?_ 1 _ rfl; (with_reducible repeat (first | refine blk_drewN ?_ _ | refine blk_drew ?_ | refine blk_alloc ?_ _)); refine blk_put (cs := #[.int .i64 0, .int .i64 0]) ?_ 0 _ rfl; (with_reducible repeat (first | refine blk_drewN ?_ _ | refine blk_drew ?_ | refine blk_alloc ?_ _)); exact BK182.out⟩, ⟨by repeat (first | (with_reducible first | exact HB.out | apply below_alloc | apply pw_below_drewN | apply below_drew1 | refine below_set ?_ GE180.out | refine below_set ?_ GE182.out) | exact HB.out)⟩⟩
              · replace c12 := Bool.eq_false_iff.mpr c12
                subst c12
                have H1 : ((simulate_outside.f ((rd_T91 l0_2 x12_1).f1) (-1048576) 1048576).bind fun t184 => (simulate_Config_checkOffsets.j1 k1 x12_1 l0_2 (l0_2.length : Int) x12_1 t184 a0_0 l0_1 l0_2 l0_3 l0_4 a0_5 a0_6 a0_7 a0_8 a0_9 a0_10 a0_11 ((rd_T91 l0_2 x12_1).f0) ((rd_T91 l0_2 x12_1).f1))) = some r := by rw [if_neg (show ¬ (false = true) by decide)] at H; exact H
                clear H
                have H := H1
                clear H1
                replace H := Option.bind_eq_some_iff.mp H
                obtain ⟨t184, A150, H⟩ := H
                replace H : (simulate_Config_checkOffsets.j1 k1 x12_1 l0_2 (l0_2.length : Int) x12_1 t184 a0_0 l0_1 l0_2 l0_3 l0_4 a0_5 a0_6 a0_7 a0_8 a0_9 a0_10 a0_11 ((rd_T91 l0_2 x12_1).f0) ((rd_T91 l0_2 x12_1).f1)) = some r := H
                have A15 := Aside0.mk A150
                clear A150
                have H' := Aside0.mk H
                clear H
                have hnb16 := NB182_180.out
                have hnc16 := NB180_182.out
                have hcz17_0 : w8.cell? ⟨gb182, 0, none⟩ = some (.int .i64 0) := (blk_cell BK182.out 0).trans rfl
                have hcz17_1 : w8.cell? ⟨gb182, 1, none⟩ = some (.int .i64 0) := (blk_cell BK182.out 1).trans rfl
                have hfz17_0 := blk_frozen BK182.out 0
                have hfz17_1 := blk_frozen BK182.out 1
                go_wp2_with (first | (go_at_call 52; (with_reducible refine (simulate_outside.calls ((rd_T91 l0_2 x12_1).f0) 1 1048576 false _ A11.out).mono ?_); rintro e w' ⟨rfl, ⟨nd, rfl⟩⟩; (try first | exact ⟨rfl, _, World.drewN_drewN _ _ _⟩ | exact ⟨rfl, _, Eq.trans (World.drewN_drewN _ _ _) (congrArg (World.drewN _) (Nat.add_assoc _ _ _))⟩)) | (go_at_call 52; (with_reducible refine (simulate_outside.calls ((rd_T91 l0_2 x12_1).f1) (-1048576) 1048576 t184 _ A15.out).mono ?_); rintro e w' ⟨rfl, ⟨nd, rfl⟩⟩; (try first | exact ⟨rfl, _, World.drewN_drewN _ _ _⟩ | exact ⟨rfl, _, Eq.trans (World.drewN_drewN _ _ _) (congrArg (World.drewN _) (Nat.add_assoc _ _ _))⟩)))
                repeat (go_quiet (first | (go_at_call 52; (with_reducible refine (simulate_outside.calls ((rd_T91 l0_2 x12_1).f0) 1 1048576 false _ A11.out).mono ?_); rintro e w' ⟨rfl, ⟨nd, rfl⟩⟩; (try first | exact ⟨rfl, _, World.drewN_drewN _ _ _⟩ | exact ⟨rfl, _, Eq.trans (World.drewN_drewN _ _ _) (congrArg (World.drewN _) (Nat.add_assoc _ _ _))⟩)) | (go_at_call 52; (with_reducible refine (simulate_outside.calls ((rd_T91 l0_2 x12_1).f1) (-1048576) 1048576 t184 _ A15.out).mono ?_); rintro e w' ⟨rfl, ⟨nd, rfl⟩⟩; (try first | exact ⟨rfl, _, World.drewN_drewN _ _ _⟩ | exact ⟨rfl, _, Eq.trans (World.drewN_drewN _ _ _) (congrArg (World.drewN _) (Nat.add_assoc _ _ _))⟩))); try go_wp2_with (first | (go_at_call 52; (with_reducible refine (simulate_outside.calls ((rd_T91 l0_2 x12_1).f0) 1 1048576 false _ A11.out).mono ?_); rintro e w' ⟨rfl, ⟨nd, rfl⟩⟩; (try first | exact ⟨rfl, _, World.drewN_drewN _ _ _⟩ | exact ⟨rfl, _, Eq.trans (World.drewN_drewN _ _ _) (congrArg (World.drewN _) (Nat.add_assoc _ _ _))⟩)) | (go_at_call 52; (with_reducible refine (simulate_outside.calls ((rd_T91 l0_2 x12_1).f1) (-1048576) 1048576 t184 _ A15.out).mono ?_); rintro e w' ⟨rfl, ⟨nd, rfl⟩⟩; (try first | exact ⟨rfl, _, World.drewN_drewN _ _ _⟩ | exact ⟨rfl, _, Eq.trans (World.drewN_drewN _ _ _) (congrArg (World.drewN _) (Nat.add_assoc _ _ _))⟩))))
                go_meet
                case rel => exact ⟨_, (t184), (by first | rfl | (simp; done) | (simp [*]; done)), H', ⟨by have := HK1.out; first | omega | exact Nat.le_refl _⟩, ⟨by (with_reducible repeat (first | refine blk_drewN ?_ _ | refine blk_drew ?_ | refine blk_alloc ?_ _)); refine blk_far ?_ NB180_182.out _; (with_reducible repeat (first | refine blk_drewN ?_ _ | refine blk_drew ?_ | refine blk_alloc ?_ _)); refine blk_far ?_ NB180_182.out _; (with_reducible repeat (first | refine blk_drewN ?_ _ | refine blk_drew ?_ | refine blk_alloc ?_ _)); exact BK180.out⟩, ⟨by (with_reducible repeat (first | refine blk_drewN ?_ _ | refine blk_drew ?_ | refine blk_alloc ?_ _)); refine blk_put (cs := #[.int .i64 ((rd_T91 l0_2 x12_1).f0), .int .i64 0]) ?_ 1 _ rfl; (with_reducible repeat (first | refine blk_drewN ?_ _ | refine blk_drew ?_ | refine blk_alloc ?_ _)); refine blk_put (cs := #[.int .i64 0, .int .i64 0]) ?_ 0 _ rfl; (with_reducible repeat (first | refine blk_drewN ?_ _ | refine blk_drew ?_ | refine blk_alloc ?_ _)); exact BK182.out⟩, ⟨by repeat (first | (with_reducible first | exact HB.out | apply below_alloc | apply pw_below_drewN | apply below_drew1 | refine below_set ?_ GE180.out | refine below_set ?_ GE182.out) | exact HB.out)⟩⟩
            case rest =>
              clear HC7
              try clear c1
              try clear p1
              try clear q1
              try clear hx1
              try clear p2
              try clear c4
              try clear c4b0
              try clear c5
              try clear c5b0
              try clear c6
              try clear c6b0
              try clear c9
              try clear c12
              try clear c13
              try clear c16
              try clear hcz10_0
              try clear hcz10_1
              try clear hcz14_0
              try clear hcz14_1
              try clear hcz17_0
              try clear hcz17_1
              try clear hcz3_0
              try clear hcz3_1
              try clear hcz3_10
              try clear hcz3_11
              try clear hcz3_2
              try clear hcz3_3
              try clear hcz3_4
              try clear hcz3_5
              try clear hcz3_6
              try clear hcz3_7
              try clear hcz3_8
              try clear hcz3_9
              try clear hfz10_0
              try clear hfz10_1
              try clear hfz14_0
              try clear hfz14_1
              try clear hfz17_0
              try clear hfz17_1
              try clear hfz3_0
              try clear hfz3_1
              try clear hfz3_10
              try clear hfz3_11
              try clear hfz3_2
              try clear hfz3_3
              try clear hfz3_4
              try clear hfz3_5
              try clear hfz3_6
              try clear hfz3_7
              try clear hfz3_8
              try clear hfz3_9
              try clear hx181_0
              try clear hx181_1
              try clear p181
              try clear p2
              try clear q181
              obtain ⟨kq, x17_6, rfl, HA, HJ6, BK180, BK182, HB⟩ := hcut
              cases kq with
              | zero => exact absurd HA.out (by simp [simulate_Config_checkOffsets.j1])
              | succ kj6 =>
                have H := HA.out
                clear HA
                simp only [simulate_Config_checkOffsets.j1] at H
                by_cases c18 : x17_6 = true
                · subst c18
                  have H1 : (some 2) = some r := by rw [if_pos rfl] at H; exact H
                  clear H
                  have H := H1
                  clear H1
                  obtain rfl := Option.some.inj H
                  go_wp2
                  repeat (go_quiet (fail); try go_wp2)
                  go_ret
                  exact ⟨by first | rfl | (simp [errW_none, errW_some] <;> rfl) | (simp [*, errW_none, errW_some] <;> rfl), by repeat (first | (with_reducible first | exact HB.out | apply below_alloc | apply pw_below_drewN | apply below_drew1 | refine below_set ?_ GE180.out | refine below_set ?_ GE182.out) | exact HB.out)⟩
                · replace c18 := Bool.eq_false_iff.mpr c18
                  subst c18
                  have H1 : (if x12_1 > 0 then (if 0 ≤ (wrap64 (x12_1 - 1)) then (if (wrap64 (x12_1 - 1)) < (l0_2.length : Int) then (if ((rd_T91 l0_2 x12_1).f0) ≤ ((rd_T91 l0_2 (wrap64 (x12_1 - 1))).f0) then (some 8) else (simulate_Config_checkOffsets.l0 kj6 l0_2 (l0_2.length : Int) (wrap64 (x12_1 + 1)) a0_0 l0_1 l0_2 l0_3 l0_4 a0_5 a0_6 a0_7 a0_8 a0_9 a0_10 a0_11)) else (none)) else (none)) else (simulate_Config_checkOffsets.l0 kj6 l0_2 (l0_2.length : Int) (wrap64 (x12_1 + 1)) a0_0 l0_1 l0_2 l0_3 l0_4 a0_5 a0_6 a0_7 a0_8 a0_9 a0_10 a0_11)) = some r := by rw [if_neg (show ¬ (false = true) by decide)] at H; exact H
                  clear H
                  have H := H1
                  clear H1
                  by_cases c19 : x12_1 > 0
                  · rw [if_pos c19] at H
                    have c19b0 : decide (0 < x12_1) = true := decide_eq_true c19
                    clear c19
                    obtain ⟨ji20, hji20⟩ : ∃ j_ : Int, (wrap64 (x12_1 - 1)) = j_ := ⟨_, rfl⟩
                    replace H : (if 0 ≤ (ji20) then (if (ji20) < (l0_2.length : Int) then (if ((rd_T91 l0_2 x12_1).f0) ≤ ((rd_T91 l0_2 (ji20)).f0) then (some 8) else (simulate_Config_checkOffsets.l0 kj6 l0_2 (l0_2.length : Int) (wrap64 (x12_1 + 1)) a0_0 l0_1 l0_2 l0_3 l0_4 a0_5 a0_6 a0_7 a0_8 a0_9 a0_10 a0_11)) else (none)) else (none)) = some r := by first | (rw [hji20] at H; exact H) | (simp only [hji20] at H ⊢; exact H)
                    have hji20w : (IntKind.i64.wrap (x12_1 - 1)) = ji20 := (i64_w _).trans hji20
                    by_cases c21 : 0 ≤ (ji20)
                    · rw [if_pos c21] at H
                      have c21b0 : decide (0 ≤ (ji20)) = true := decide_eq_true c21
                      clear c21
                      by_cases c22 : (ji20) < (l0_2.length : Int)
                      · rw [if_pos c22] at H
                        have c22b0 : decide ((ji20) < (l0_2.length : Int)) = true := decide_eq_true c22
                        clear c22
                        by_cases c23 : ((rd_T91 l0_2 x12_1).f0) ≤ ((rd_T91 l0_2 (ji20)).f0)
                        · rw [if_pos c23] at H
                          have c23b0 : decide (((rd_T91 l0_2 x12_1).f0) ≤ ((rd_T91 l0_2 (ji20)).f0)) = true := decide_eq_true c23
                          clear c23
                          obtain rfl := Option.some.inj H
                          have hnb24 := NB182_180.out
                          have hnc24 := NB180_182.out
                          have hcz25_0 : wc.cell? ⟨gb182, 0, none⟩ = some (.int .i64 ((rd_T91 l0_2 x12_1).f0)) := (blk_cell BK182.out 0).trans rfl
                          have hcz25_1 : wc.cell? ⟨gb182, 1, none⟩ = some (.int .i64 ((rd_T91 l0_2 x12_1).f1)) := (blk_cell BK182.out 1).trans rfl
                          have hfz25_0 := blk_frozen BK182.out 0
                          have hfz25_1 := blk_frozen BK182.out 1
                          have hcz26_0 : wc.cell? ⟨gb180, 0, none⟩ = some (.int .i64 a0_0) := (blk_cell BK180.out 0).trans rfl
                          have hcz26_1 : wc.cell? ⟨gb180, 1, none⟩ = some (.slice A0_1 l0_1.length c0_1) := (blk_cell BK180.out 1).trans rfl
                          have hcz26_2 : wc.cell? ⟨gb180, 2, none⟩ = some (.slice (some ad181) l0_2.length c0_2) := (blk_cell BK180.out 2).trans rfl
                          have hcz26_3 : wc.cell? ⟨gb180, 3, none⟩ = some (.slice A0_3 l0_3.length c0_3) := (blk_cell BK180.out 3).trans rfl
                          have hcz26_4 : wc.cell? ⟨gb180, 4, none⟩ = some (.slice A0_4 l0_4.length c0_4) := (blk_cell BK180.out 4).trans rfl
                          have hcz26_5 : wc.cell? ⟨gb180, 5, none⟩ = some (.int .i64 a0_5) := (blk_cell BK180.out 5).trans rfl
                          have hcz26_6 : wc.cell? ⟨gb180, 6, none⟩ = some (.int .i64 a0_6) := (blk_cell BK180.out 6).trans rfl
                          have hcz26_7 : wc.cell? ⟨gb180, 7, none⟩ = some (.int .i64 a0_7) := (blk_cell BK180.out 7).trans rfl
                          have hcz26_8 : wc.cell? ⟨gb180, 8, none⟩ = some (.int .i64 a0_8) := (blk_cell BK180.out 8).trans rfl
                          have hcz26_9 : wc.cell? ⟨gb180, 9, none⟩ = some (.int .i64 a0_9) := (blk_cell BK180.out 9).trans rfl
                          have hcz26_10 : wc.cell? ⟨gb180, 10, none⟩ = some (.int .i64 a0_10) := (blk_cell BK180.out 10).trans rfl
                          have hcz26_11 : wc.cell? ⟨gb180, 11, none⟩ = some (.int .i64 a0_11) := (blk_cell BK180.out 11).trans rfl
                          have hfz26_0 := blk_frozen BK180.out 0
                          have hfz26_1 := blk_frozen BK180.out 1
                          have hfz26_2 := blk_frozen BK180.out 2
                          have hfz26_3 := blk_frozen BK180.out 3
                          have hfz26_4 := blk_frozen BK180.out 4
                          have hfz26_5 := blk_frozen BK180.out 5
                          have hfz26_6 := blk_frozen BK180.out 6
                          have hfz26_7 := blk_frozen BK180.out 7
                          have hfz26_8 := blk_frozen BK180.out 8
                          have hfz26_9 := blk_frozen BK180.out 9
                          have hfz26_10 := blk_frozen BK180.out 10
                          have hfz26_11 := blk_frozen BK180.out 11
                          have p185 : 0 ≤ ((ji20) : Int) := of_decide_eq_true (by first | (with_reducible assumption) | assumption)
                          have q185 : (ji20) < (l0_2.length : Int) := of_decide_eq_true (by first | (with_reducible assumption) | assumption)
                          obtain ⟨ad185, e185, hx185_0, hx185_1⟩ := at_T91 HR0_2.out (ji20) p185 q185
                          obtain rfl : ad181 = ad185 := (by injection e185)
                          replace hx185_0 := (HB.out.cell (World.block_lt_of_cell? w _ hx185_0)).trans hx185_0
                          replace hx185_1 := (HB.out.cell (World.block_lt_of_cell? w _ hx185_1)).trans hx185_1
                          replace p185 := eq_true p185
                          replace q185 := eq_true q185
                          go_wp2
                          repeat (go_quiet (fail); try go_wp2)
                          go_ret
                          exact ⟨by first | rfl | (simp [errW_none, errW_some] <;> rfl) | (simp only [← hji20]; first | rfl | (simp [errW_none, errW_some] <;> rfl)) | (simp [*, errW_none, errW_some] <;> rfl), by repeat (first | (with_reducible first | exact HB.out | apply below_alloc | apply pw_below_drewN | apply below_drew1 | refine below_set ?_ GE180.out | refine below_set ?_ GE182.out) | exact HB.out)⟩
                        · rw [if_neg c23] at H
                          have c23b0 : decide (((rd_T91 l0_2 x12_1).f0) ≤ ((rd_T91 l0_2 (ji20)).f0)) = false := decide_eq_false c23
                          clear c23
                          have H' := Aside0.mk H
                          clear H
                          have hnb27 := NB182_180.out
                          have hnc27 := NB180_182.out
                          have hcz28_0 : wc.cell? ⟨gb182, 0, none⟩ = some (.int .i64 ((rd_T91 l0_2 x12_1).f0)) := (blk_cell BK182.out 0).trans rfl
                          have hcz28_1 : wc.cell? ⟨gb182, 1, none⟩ = some (.int .i64 ((rd_T91 l0_2 x12_1).f1)) := (blk_cell BK182.out 1).trans rfl
                          have hfz28_0 := blk_frozen BK182.out 0
                          have hfz28_1 := blk_frozen BK182.out 1
                          have hcz29_0 : wc.cell? ⟨gb180, 0, none⟩ = some (.int .i64 a0_0) := (blk_cell BK180.out 0).trans rfl
                          have hcz29_1 : wc.cell? ⟨gb180, 1, none⟩ = some (.slice A0_1 l0_1.length c0_1) := (blk_cell BK180.out 1).trans rfl
                          have hcz29_2 : wc.cell? ⟨gb180, 2, none⟩ = some (.slice (some ad181) l0_2.length c0_2) := (blk_cell BK180.out 2).trans rfl
                          have hcz29_3 : wc.cell? ⟨gb180, 3, none⟩ = some (.slice A0_3 l0_3.length c0_3) := (blk_cell BK180.out 3).trans rfl
                          have hcz29_4 : wc.cell? ⟨gb180, 4, none⟩ = some (.slice A0_4 l0_4.length c0_4) := (blk_cell BK180.out 4).trans rfl
                          have hcz29_5 : wc.cell? ⟨gb180, 5, none⟩ = some (.int .i64 a0_5) := (blk_cell BK180.out 5).trans rfl
                          have hcz29_6 : wc.cell? ⟨gb180, 6, none⟩ = some (.int .i64 a0_6) := (blk_cell BK180.out 6).trans rfl
                          have hcz29_7 : wc.cell? ⟨gb180, 7, none⟩ = some (.int .i64 a0_7) := (blk_cell BK180.out 7).trans rfl
                          have hcz29_8 : wc.cell? ⟨gb180, 8, none⟩ = some (.int .i64 a0_8) := (blk_cell BK180.out 8).trans rfl
                          have hcz29_9 : wc.cell? ⟨gb180, 9, none⟩ = some (.int .i64 a0_9) := (blk_cell BK180.out 9).trans rfl
                          have hcz29_10 : wc.cell? ⟨gb180, 10, none⟩ = some (.int .i64 a0_10) := (blk_cell BK180.out 10).trans rfl
                          have hcz29_11 : wc.cell? ⟨gb180, 11, none⟩ = some (.int .i64 a0_11) := (blk_cell BK180.out 11).trans rfl
                          have hfz29_0 := blk_frozen BK180.out 0
                          have hfz29_1 := blk_frozen BK180.out 1
                          have hfz29_2 := blk_frozen BK180.out 2
                          have hfz29_3 := blk_frozen BK180.out 3
                          have hfz29_4 := blk_frozen BK180.out 4
                          have hfz29_5 := blk_frozen BK180.out 5
                          have hfz29_6 := blk_frozen BK180.out 6
                          have hfz29_7 := blk_frozen BK180.out 7
                          have hfz29_8 := blk_frozen BK180.out 8
                          have hfz29_9 := blk_frozen BK180.out 9
                          have hfz29_10 := blk_frozen BK180.out 10
                          have hfz29_11 := blk_frozen BK180.out 11
                          have p185 : 0 ≤ ((ji20) : Int) := of_decide_eq_true (by first | (with_reducible assumption) | assumption)
                          have q185 : (ji20) < (l0_2.length : Int) := of_decide_eq_true (by first | (with_reducible assumption) | assumption)
                          obtain ⟨ad185, e185, hx185_0, hx185_1⟩ := at_T91 HR0_2.out (ji20) p185 q185
                          obtain rfl : ad181 = ad185 := (by injection e185)
                          replace hx185_0 := (HB.out.cell (World.block_lt_of_cell? w _ hx185_0)).trans hx185_0
                          replace hx185_1 := (HB.out.cell (World.block_lt_of_cell? w _ hx185_1)).trans hx185_1
                          replace p185 := eq_true p185
                          replace q185 := eq_true q185
                          go_wp2
                          repeat (go_quiet (fail); try go_wp2)
                          go_roundg kj6
                          case measure => have := HK1.out; have := HJ6.out; omega
                          case rel => exact ⟨(wrap64 (x12_1 + 1)), (by first | rfl | (simp; done) | (simp [*]; done)), H', ⟨by have := HK1.out; have := HJ6.out; omega⟩, ⟨by (with_reducible repeat (first | refine blk_drewN ?_ _ | refine blk_drew ?_ | refine blk_alloc ?_ _)); exact BK180.out⟩, ⟨by repeat (first | (with_reducible first | exact HB.out | apply below_alloc | apply pw_below_drewN | apply below_drew1 | refine below_set ?_ GE180.out | refine below_set ?_ GE182.out) | exact HB.out)⟩⟩
                      · rw [if_neg c22] at H
                        exact absurd H (by simp)
                    · rw [if_neg c21] at H
                      exact absurd H (by simp)
                  · rw [if_neg c19] at H
                    have c19b0 : decide (0 < x12_1) = false := decide_eq_false c19
                    clear c19
                    have H' := Aside0.mk H
                    clear H
                    go_wp2
                    repeat (go_quiet (fail); try go_wp2)
                    go_roundg kj6
                    case measure => have := HK1.out; have := HJ6.out; omega
                    case rel => exact ⟨(wrap64 (x12_1 + 1)), (by first | rfl | (simp; done) | (simp [*]; done)), H', ⟨by have := HK1.out; have := HJ6.out; omega⟩, ⟨by (with_reducible repeat (first | refine blk_drewN ?_ _ | refine blk_drew ?_ | refine blk_alloc ?_ _)); exact BK180.out⟩, ⟨by repeat (first | (with_reducible first | exact HB.out | apply below_alloc | apply pw_below_drewN | apply below_drew1 | refine below_set ?_ GE180.out | refine below_set ?_ GE182.out) | exact HB.out)⟩⟩
          · rw [if_neg c6] at H
            exact absurd H (by simp)
        · rw [if_neg c5] at H
          exact absurd H (by simp)
      · rw [if_neg c4] at H
        have c4b0 : decide (x12_1 < (l0_2.length : Int)) = false := decide_eq_false c4
        clear c4
        have H' := Aside0.mk H
        clear H
        have hcz30_0 : wr.cell? ⟨gb180, 0, none⟩ = some (.int .i64 a0_0) := (blk_cell BK180.out 0).trans rfl
        have hcz30_1 : wr.cell? ⟨gb180, 1, none⟩ = some (.slice A0_1 l0_1.length c0_1) := (blk_cell BK180.out 1).trans rfl
        have hcz30_2 : wr.cell? ⟨gb180, 2, none⟩ = some (.slice A0_2 l0_2.length c0_2) := (blk_cell BK180.out 2).trans rfl
        have hcz30_3 : wr.cell? ⟨gb180, 3, none⟩ = some (.slice A0_3 l0_3.length c0_3) := (blk_cell BK180.out 3).trans rfl
        have hcz30_4 : wr.cell? ⟨gb180, 4, none⟩ = some (.slice A0_4 l0_4.length c0_4) := (blk_cell BK180.out 4).trans rfl
        have hcz30_5 : wr.cell? ⟨gb180, 5, none⟩ = some (.int .i64 a0_5) := (blk_cell BK180.out 5).trans rfl
        have hcz30_6 : wr.cell? ⟨gb180, 6, none⟩ = some (.int .i64 a0_6) := (blk_cell BK180.out 6).trans rfl
        have hcz30_7 : wr.cell? ⟨gb180, 7, none⟩ = some (.int .i64 a0_7) := (blk_cell BK180.out 7).trans rfl
        have hcz30_8 : wr.cell? ⟨gb180, 8, none⟩ = some (.int .i64 a0_8) := (blk_cell BK180.out 8).trans rfl
        have hcz30_9 : wr.cell? ⟨gb180, 9, none⟩ = some (.int .i64 a0_9) := (blk_cell BK180.out 9).trans rfl
        have hcz30_10 : wr.cell? ⟨gb180, 10, none⟩ = some (.int .i64 a0_10) := (blk_cell BK180.out 10).trans rfl
        have hcz30_11 : wr.cell? ⟨gb180, 11, none⟩ = some (.int .i64 a0_11) := (blk_cell BK180.out 11).trans rfl
        have hfz30_0 := blk_frozen BK180.out 0
        have hfz30_1 := blk_frozen BK180.out 1
        have hfz30_2 := blk_frozen BK180.out 2
        have hfz30_3 := blk_frozen BK180.out 3
        have hfz30_4 := blk_frozen BK180.out 4
        have hfz30_5 := blk_frozen BK180.out 5
        have hfz30_6 := blk_frozen BK180.out 6
        have hfz30_7 := blk_frozen BK180.out 7
        have hfz30_8 := blk_frozen BK180.out 8
        have hfz30_9 := blk_frozen BK180.out 9
        have hfz30_10 := blk_frozen BK180.out 10
        have hfz30_11 := blk_frozen BK180.out 11
        go_wp2
        repeat (go_quiet (fail); try go_wp2)
        go_loopg [45] k1 (fun kq v45 w' => ∃ (x45_2 : Int), v45 = .int .i64 x45_2 ∧ Aside0 (simulate_Config_checkOffsets.l1 kq l0_1 (l0_1.length : Int) x45_2 a0_0 l0_1 l0_2 l0_3 l0_4 a0_5 a0_6 a0_7 a0_8 a0_9 a0_10 a0_11 = some r) ∧ Aside0 (kq ≤ k1) ∧ Aside0 (w'.heap[gb180]? = some (.cells #[.int .i64 a0_0, (.slice A0_1 l0_1.length c0_1), (.slice A0_2 l0_2.length c0_2), (.slice A0_3 l0_3.length c0_3), (.slice A0_4 l0_4.length c0_4), .int .i64 a0_5, .int .i64 a0_6, .int .i64 a0_7, .int .i64 a0_8, .int .i64 a0_9, .int .i64 a0_10, .int .i64 a0_11] 31 (0, 0))) ∧ Aside0 (Below w.heap.size w w'))
        case atStart => exact ⟨(0), (by first | rfl | (simp; done) | (simp [*]; done)), H', ⟨Nat.le_refl _⟩, ⟨by (with_reducible repeat (first | refine blk_drewN ?_ _ | refine blk_drew ?_ | refine blk_alloc ?_ _)); exact BK180.out⟩, ⟨by repeat (first | (with_reducible first | exact HB.out | apply below_alloc | apply pw_below_drewN | apply below_drew1 | refine below_set ?_ GE180.out) | exact HB.out)⟩⟩
        case round =>
          clear H'
          try clear c1
          try clear p1
          try clear q1
          try clear hx1
          try clear c2
          try clear p2
          try clear c4
          try clear c4b0
          try clear c5
          try clear c5b0
          try clear c6
          try clear c6b0
          try clear p6
          try clear c9
          try clear c12
          try clear c13
          try clear c16
          try clear c18
          try clear p18
          try clear q18
          try clear hx18
          try clear c19
          try clear c19b0
          try clear c21
          try clear c21b0
          try clear c22
          try clear c22b0
          try clear c23
          try clear c23b0
          try clear c24
          try clear c27
          try clear hcz10_0
          try clear hcz10_1
          try clear hcz14_0
          try clear hcz14_1
          try clear hcz17_0
          try clear hcz17_1
          try clear hcz25_0
          try clear hcz25_1
          try clear hcz26_0
          try clear hcz26_1
          try clear hcz26_10
          try clear hcz26_11
          try clear hcz26_2
          try clear hcz26_3
          try clear hcz26_4
          try clear hcz26_5
          try clear hcz26_6
          try clear hcz26_7
          try clear hcz26_8
          try clear hcz26_9
          try clear hcz28_0
          try clear hcz28_1
          try clear hcz29_0
          try clear hcz29_1
          try clear hcz29_10
          try clear hcz29_11
          try clear hcz29_2
          try clear hcz29_3
          try clear hcz29_4
          try clear hcz29_5
          try clear hcz29_6
          try clear hcz29_7
          try clear hcz29_8
          try clear hcz29_9
          try clear hcz30_0
          try clear hcz30_1
          try clear hcz30_10
          try clear hcz30_11
          try clear hcz30_2
          try clear hcz30_3
          try clear hcz30_4
          try clear hcz30_5
          try clear hcz30_6
          try clear hcz30_7
          try clear hcz30_8
          try clear hcz30_9
          try clear hcz3_0
          try clear hcz3_1
          try clear hcz3_10
          try clear hcz3_11
          try clear hcz3_2
          try clear hcz3_3
          try clear hcz3_4
          try clear hcz3_5
          try clear hcz3_6
          try clear hcz3_7
          try clear hcz3_8
          try clear hcz3_9
          try clear hfz10_0
          try clear hfz10_1
          try clear hfz14_0
          try clear hfz14_1
          try clear hfz17_0
          try clear hfz17_1
          try clear hfz25_0
          try clear hfz25_1
          try clear hfz26_0
          try clear hfz26_1
          try clear hfz26_10
          try clear hfz26_11
          try clear hfz26_2
          try clear hfz26_3
          try clear hfz26_4
          try clear hfz26_5
          try clear hfz26_6
          try clear hfz26_7
          try clear hfz26_8
          try clear hfz26_9
          try clear hfz28_0
          try clear hfz28_1
          try clear hfz29_0
          try clear hfz29_1
          try clear hfz29_10
          try clear hfz29_11
          try clear hfz29_2
          try clear hfz29_3
          try clear hfz29_4
          try clear hfz29_5
          try clear hfz29_6
          try clear hfz29_7
          try clear hfz29_8
          try clear hfz29_9
          try clear hfz30_0
          try clear hfz30_1
          try clear hfz30_10
          try clear hfz30_11
          try clear hfz30_2
          try clear hfz30_3
          try clear hfz30_4
          try clear hfz30_5
          try clear hfz30_6
          try clear hfz30_7
          try clear hfz30_8
          try clear hfz30_9
          try clear hfz3_0
          try clear hfz3_1
          try clear hfz3_10
          try clear hfz3_11
          try clear hfz3_2
          try clear hfz3_3
          try clear hfz3_4
          try clear hfz3_5
          try clear hfz3_6
          try clear hfz3_7
          try clear hfz3_8
          try clear hfz3_9
          try clear hx181_0
          try clear hx181_1
          try clear hx185_0
          try clear hx185_1
          try clear p1
          try clear p181
          try clear p185
          try clear p2
          try clear q1
          try clear q181
          try clear q185
          obtain ⟨x45_2, rfl, HA, HK2, BK180, HB⟩ := hrel
          cases gk with
          | zero => exact absurd HA.out (by simp [simulate_Config_checkOffsets.l1])
          | succ k2 =>
            have H := HA.out
            clear HA
            simp only [simulate_Config_checkOffsets.l1] at H
            by_cases c31 : x45_2 < (l0_1.length : Int)
            · rw [if_pos c31] at H
              have c31b0 : decide (x45_2 < (l0_1.length : Int)) = true := decide_eq_true c31
              clear c31
              by_cases c32 : 0 ≤ x45_2
              · rw [if_pos c32] at H
                have c32b0 : decide (0 ≤ x45_2) = true := decide_eq_true c32
                clear c32
                by_cases c33 : x45_2 < (l0_1.length : Int)
                · rw [if_pos c33] at H
                  have c33b0 : decide (x45_2 < (l0_1.length : Int)) = true := decide_eq_true c33
                  clear c33
                  replace H := Option.bind_eq_some_iff.mp H
                  obtain ⟨⟨t188, t189⟩, A340, H⟩ := H
                  replace H : (if t189 = true then (simulate_Config_checkOffsets.l1 k2 l0_1 (l0_1.length : Int) (wrap64 (x45_2 + 1)) a0_0 l0_1 l0_2 l0_3 l0_4 a0_5 a0_6 a0_7 a0_8 a0_9 a0_10 a0_11) else (some 34)) = some r := H
                  have A34 := Aside0.mk A340
                  clear A340
                  by_cases c35 : t189 = true
                  · subst c35
                    have H1 : (simulate_Config_checkOffsets.l1 k2 l0_1 (l0_1.length : Int) (wrap64 (x45_2 + 1)) a0_0 l0_1 l0_2 l0_3 l0_4 a0_5 a0_6 a0_7 a0_8 a0_9 a0_10 a0_11) = some r := by rw [if_pos rfl] at H; exact H
                    clear H
                    have H := H1
                    clear H1
                    have H' := Aside0.mk H
                    clear H
                    have p186 : 0 ≤ (x45_2 : Int) := of_decide_eq_true (by first | (with_reducible assumption) | assumption)
                    have q186 : x45_2 < (l0_1.length : Int) := of_decide_eq_true (by first | (with_reducible assumption) | assumption)
                    obtain ⟨ad186, A186_5, c186_5, e186, hx186_0, hx186_1, hx186_2, hx186_3, hx186_4, hx186_5, hl186_5, hi186_5⟩ := at_T64 HR0_1.out x45_2 p186 q186
                    cases e186
                    replace hx186_0 := (HB.out.cell (World.block_lt_of_cell? w _ hx186_0)).trans hx186_0
                    replace hx186_1 := (HB.out.cell (World.block_lt_of_cell? w _ hx186_1)).trans hx186_1
                    replace hx186_2 := (HB.out.cell (World.block_lt_of_cell? w _ hx186_2)).trans hx186_2
                    replace hx186_3 := (HB.out.cell (World.block_lt_of_cell? w _ hx186_3)).trans hx186_3
                    replace hx186_4 := (HB.out.cell (World.block_lt_of_cell? w _ hx186_4)).trans hx186_4
                    replace hx186_5 := (HB.out.cell (World.block_lt_of_cell? w _ hx186_5)).trans hx186_5
                    have HR186_5 := Aside0.mk hi186_5
                    have HC186_5 := Aside0.mk hl186_5
                    clear hi186_5 hl186_5
                    replace p186 := eq_true p186
                    replace q186 := eq_true q186
                    go_wp2_with (first | ((with_reducible refine gate_dst (N := 6) rfl ?_); refine box_event ?hg (N := 6) ?hd (cs := #[.string (⟨#[]⟩ : ByteArray), .int .i64 0, .int .i64 0, .int .i64 0, .int .i64 0, .slice none 0 0]) (t := 64) ?hr ?_; (case hd => rfl); (case hg => rfl); (case hr => first | (go_simp; done) | (go_simp; rfl)); intro gb187 hg w36 hbox hb; have n0_ := Aside0.mk (blk_below (g := gb180) (o := .cells #[.int .i64 a0_0, .slice (some ad186) l0_1.length c0_1, .slice A0_2 l0_2.length c0_2, .slice A0_3 l0_3.length c0_3, .slice A0_4 l0_4.length c0_4, .int .i64 a0_5, .int .i64 a0_6, .int .i64 a0_7, .int .i64 a0_8, .int .i64 a0_9, .int .i64 a0_10, .int .i64 a0_11] 31 (0, 0)) (by (with_reducible repeat (first | refine blk_drewN ?_ _ | refine blk_drew ?_ | refine blk_alloc ?_ _)); exact BK180.out) hb); have n1_ := Aside0.mk (below_step (by repeat (first | (with_reducible first | exact HB.out | apply below_alloc | apply pw_below_drewN | apply below_drew1 | refine below_set ?_ GE180.out) | exact HB.out)) hb); have n2_ := Aside0.mk (hbox); have n3_ := Aside0.mk ((by rw [hg]; exact (below_size (by repeat (first | (with_reducible first | exact HB.out | apply below_alloc | apply pw_below_drewN | apply below_drew1 | refine below_set ?_ GE180.out) | exact HB.out))) : w.heap.size ≤ gb187)); have n4_ := Aside0.mk ((by rw [hg]; exact (below_size (by repeat (first | (with_reducible first | exact HB.out | apply below_alloc | apply pw_below_drewN | apply below_drew1 | refine below_set ?_ GE180.out) | exact HB.out))) : w.heap.size ≤ gb187)); have n5_ := Aside0.mk ((by rw [hg]; exact Nat.ne_of_lt (blk_lt (g := gb180) (o := .cells #[.int .i64 a0_0, .slice (some ad186) l0_1.length c0_1, .slice A0_2 l0_2.length c0_2, .slice A0_3 l0_3.length c0_3, .slice A0_4 l0_4.length c0_4, .int .i64 a0_5, .int .i64 a0_6, .int .i64 a0_7, .int .i64 a0_8, .int .i64 a0_9, .int .i64 a0_10, .int .i64 a0_11] 31 (0, 0)) (by (with_reducible repeat (first | refine blk_drewN ?_ _ | refine blk_drew ?_ | refine blk_alloc ?_ _)); exact BK180.out)) : gb180 ≠ gb187)); have n6_ := Aside0.mk ((by rw [hg]; exact Nat.ne_of_gt (blk_lt (g := gb180) (o := .cells #[.int .i64 a0_0, .slice (some ad186) l0_1.length c0_1, .slice A0_2 l0_2.length c0_2, .slice A0_3 l0_3.length c0_3, .slice A0_4 l0_4.length c0_4, .int .i64 a0_5, .int .i64 a0_6, .int .i64 a0_7, .int .i64 a0_8, .int .i64 a0_9, .int .i64 a0_10, .int .i64 a0_11] 31 (0, 0)) (by (with_reducible repeat (first | refine blk_drewN ?_ _ | refine blk_drew ?_ | refine blk_alloc ?_ _)); exact BK180.out)) : gb187 ≠ gb180)); clear BK180; clear HB; have BK180 := n0_; have HB := n1_; have BK187 := n2_; have GW187 := n3_; have GE187 := n4_; have NB180_187 := n5_; have NB187_180 := n6_; clear n0_ n1_ n2_ n3_ n4_ n5_ n6_; clear hb hbox hg; have hnb37 := NB187_180.out; have hnc37 := NB180_187.out; have hcz38_0 : w36.cell? ⟨gb187, 0, none⟩ = some (.string (⟨#[]⟩ : ByteArray)) := (blk_cell BK187.out 0).trans rfl; have hcz38_1 : w36.cell? ⟨gb187, 1, none⟩ = some (.int .i64 0) := (blk_cell BK187.out 1).trans rfl; have hcz38_2 : w36.cell? ⟨gb187, 2, none⟩ = some (.int .i64 0) := (blk_cell BK187.out 2).trans rfl; have hcz38_3 : w36.cell? ⟨gb187, 3, none⟩ = some (.int .i64 0) := (blk_cell BK187.out 3).trans rfl; have hcz38_4 : w36.cell? ⟨gb187, 4, none⟩ = some (.int .i64 0) := (blk_cell BK187.out 4).trans rfl; have hcz38_5 : w36.cell? ⟨gb187, 5, none⟩ = some (.slice none 0 0) := (blk_cell BK187.out 5).trans rfl; have hfz38_0 := blk_frozen BK187.out 0; have hfz38_1 := blk_frozen BK187.out 1; have hfz38_2 := blk_frozen BK187.out 2; have hfz38_3 := blk_frozen BK187.out 3; have hfz38_4 := blk_frozen BK187.out 4; have hfz38_5 := blk_frozen BK187.out 5; have hcz39_0 : w36.cell? ⟨gb180, 0, none⟩ = some (.int .i64 a0_0) := (blk_cell BK180.out 0).trans rfl; have hcz39_1 : w36.cell? ⟨gb180, 1, none⟩ = some (.slice (some ad186) l0_1.length c0_1) := (blk_cell BK180.out 1).trans rfl; have hcz39_2 : w36.cell? ⟨gb180, 2, none⟩ = some (.slice A0_2 l0_2.length c0_2) := (blk_cell BK180.out 2).trans rfl; have hcz39_3 : w36.cell? ⟨gb180, 3, none⟩ = some (.slice A0_3 l0_3.length c0_3) := (blk_cell BK180.out 3).trans rfl; have hcz39_4 : w36.cell? ⟨gb180, 4, none⟩ = some (.slice A0_4 l0_4.length c0_4) := (blk_cell BK180.out 4).trans rfl; have hcz39_5 : w36.cell? ⟨gb180, 5, none⟩ = some (.int .i64 a0_5) := (blk_cell BK180.out 5).trans rfl; have hcz39_6 : w36.cell? ⟨gb180, 6, none⟩ = some (.int .i64 a0_6) := (blk_cell BK180.out 6).trans rfl; have hcz39_7 : w36.cell? ⟨gb180, 7, none⟩ = some (.int .i64 a0_7) := (blk_cell BK180.out 7).trans rfl; have hcz39_8 : w36.cell? ⟨gb180, 8, none⟩ = some (.int .i64 a0_8) := (blk_cell BK180.out 8).trans rfl; have hcz39_9 : w36.cell? ⟨gb180, 9, none⟩ = some (.int .i64 a0_9) := (blk_cell BK180.out 9).trans rfl; have hcz39_10 : w36.cell? ⟨gb180, 10, none⟩ = some (.int .i64 a0_10) := (blk_cell BK180.out 10).trans rfl; have hcz39_11 : w36.cell? ⟨gb180, 11, none⟩ = some (.int .i64 a0_11) := (blk_cell BK180.out 11).trans rfl; have hfz39_0 := blk_frozen BK180.out 0; have hfz39_1 := blk_frozen BK180.out 1; have hfz39_2 := blk_frozen BK180.out 2; have hfz39_3 := blk_frozen BK180.out 3; have hfz39_4 := blk_frozen BK180.out 4; have hfz39_5 := blk_frozen BK180.out 5; have hfz39_6 := blk_frozen BK180.out 6; have hfz39_7 := blk_frozen BK180.out 7; have hfz39_8 := blk_frozen BK180.out 8; have hfz39_9 := blk_frozen BK180.out 9; have hfz39_10 := blk_frozen BK180.out 10; have hfz39_11 := blk_frozen BK180.out 11) | (go_at_call 38; (with_reducible refine (simulate_Config_offset.calls a0_0 _ _ l0_1 _ _ l0_2 _ _ l0_3 _ _ l0_4 a0_5 a0_6 a0_7 a0_8 a0_9 a0_10 a0_11 ((rd_T64 l0_1 x45_2).f1) t188 true _ ?side1 ?side2 ?side3 ?side4 ?side5 ?side6 ?side7 ?side8 A34.out).mono ?_); (case side1 => exact Kd.C_below HR0_1.out (by repeat (first | (with_reducible first | exact HB.out | apply below_alloc | apply pw_below_drewN | apply below_drew1 | refine below_set ?_ GE180.out | refine below_set ?_ GE187.out) | exact HB.out))); (case side2 => exact HC0_1.out); (case side3 => exact Kd.C_below HR0_2.out (by repeat (first | (with_reducible first | exact HB.out | apply below_alloc | apply pw_below_drewN | apply below_drew1 | refine below_set ?_ GE180.out | refine below_set ?_ GE187.out) | exact HB.out))); (case side4 => exact HC0_2.out); (case side5 => exact Kd.C_below HR0_3.out (by repeat (first | (with_reducible first | exact HB.out | apply below_alloc | apply pw_below_drewN | apply below_drew1 | refine below_set ?_ GE180.out | refine below_set ?_ GE187.out) | exact HB.out))); (case side6 => exact HC0_3.out); (case side7 => exact Kd.C_below HR0_4.out (by repeat (first | (with_reducible first | exact HB.out | apply below_alloc | apply pw_below_drewN | apply below_drew1 | refine below_set ?_ GE180.out | refine below_set ?_ GE187.out) | exact HB.out))); (case side8 => exact HC0_4.out); rintro e w40 ⟨rfl, hb⟩; have n0_ := Aside0.mk (blk_below (g := gb180) (o := .cells #[.int .i64 a0_0, .slice (some ad186) l0_1.length c0_1, .slice A0_2 l0_2.length c0_2, .slice A0_3 l0_3.length c0_3, .slice A0_4 l0_4.length c0_4, .int .i64 a0_5, .int .i64 a0_6, .int .i64 a0_7, .int .i64 a0_8, .int .i64 a0_9, .int .i64 a0_10, .int .i64 a0_11] 31 (0, 0)) (by (with_reducible repeat (first | refine blk_drewN ?_ _ | refine blk_drew ?_ | refine blk_alloc ?_ _)); refine blk_far ?_ NB180_187.out _; (with_reducible repeat (first | refine blk_drewN ?_ _ | refine blk_drew ?_ | refine blk_alloc ?_ _)); refine blk_far ?_ NB180_187.out _; (with_reducible repeat (first | refine blk_drewN ?_ _ | refine blk_drew ?_ | refine blk_alloc ?_ _)); refine blk_far ?_ NB180_187.out _; (with_reducible repeat (first | refine blk_drewN ?_ _ | refine blk_drew ?_ | refine blk_alloc ?_ _)); refine blk_far ?_ NB180_187.out _; (with_reducible repeat (first | refine blk_drewN ?_ _ | refine blk_drew ?_ | refine blk_alloc ?_ _)); refine blk_far ?_ NB180_187.out _; (with_reducible repeat (first | refine blk_drewN ?_ _ | refine blk_drew ?_ | refine blk_alloc ?_ _)); refine blk_far ?_ NB180_187.out _; (with_reducible repeat (first | refine blk_drewN ?_ _ | refine blk_drew ?_ | refine blk_alloc ?_ _)); exact BK180.out) hb); have n1_ := Aside0.mk (blk_below (g := gb187) (o := .cells #[.string ((rd_T64 l0_1 x45_2).f0), .int .i64 ((rd_T64 l0_1 x45_2).f1), .int .i64 ((rd_T64 l0_1 x45_2).f2), .int .i64 ((rd_T64 l0_1 x45_2).f3), .int .i64 ((rd_T64 l0_1 x45_2).f4), .slice A186_5 ((rd_T64 l0_1 x45_2).f5).length c186_5] 64 (0, 0)) (by (with_reducible repeat (first | refine blk_drewN ?_ _ | refine blk_drew ?_ | refine blk_alloc ?_ _)); refine blk_put (cs := #[.string ((rd_T64 l0_1 x45_2).f0), .int .i64 ((rd_T64 l0_1 x45_2).f1), .int .i64 ((rd_T64 l0_1 x45_2).f2), .int .i64 ((rd_T64 l0_1 x45_2).f3), .int .i64 ((rd_T64 l0_1 x45_2).f4), .slice none 0 0]) ?_ 5 _ rfl; (with_reducible repeat (first | refine blk_drewN ?_ _ | refine blk_drew ?_ | refine blk_alloc ?_ _)); refine blk_put (cs := #[.string ((rd_T64 l0_1 x45_2).f0), .int .i64 ((rd_T64 l0_1 x45_2).f1), .int .i64 ((rd_T64 l0_1 x45_2).f2), .int .i64 ((rd_T64 l0_1 x45_2).f3), .int .i64 0, .slice none 0 0]) ?_ 4 _ rfl; (with_reducible repeat (first | refine blk_drewN ?_ _ | refine blk_drew ?_ | refine blk_alloc ?_ _)); refine blk_put (cs := #[.string ((rd_T64 l0_1 x45_2).f0), .int .i64 ((rd_T64 l0_1 x45_2).f1), .int .i64 ((rd_T64 l0_1 x45_2).f2), .int .i64 0, .int .i64 0, .slice none 0 0]) ?_ 3 _ rfl; (with_reducible repeat (first | refine blk_drewN ?_ _ | refine blk_drew ?_ | refine blk_alloc ?_ _)); refine blk_put (cs := #[.string ((rd_T64 l0_1 x45_2).f0), .int .i64 ((rd_T64 l0_1 x45_2).f1), .int .i64 0, .int .i64 0, .int .i64 0, .slice none 0 0]) ?_ 2 _ rfl; (with_reducible repeat (first | refine blk_drewN ?_ _ | refine blk_drew ?_ | refine blk_alloc ?_ _)); refine blk_put (cs := #[.string ((rd_T64 l0_1 x45_2).f0), .int .i64 0, .int .i64 0, .int .i64 0, .int .i64 0, .slice none 0 0]) ?_ 1 _ rfl; (with_reducible repeat (first | refine blk_drewN ?_ _ | refine blk_drew ?_ | refine blk_alloc ?_ _)); refine blk_put (cs := #[.string (⟨#[]⟩ : ByteArray), .int .i64 0, .int .i64 0, .int .i64 0, .int .i64 0, .slice none 0 0]) ?_ 0 _ rfl; (with_reducible repeat (first | refine blk_drewN ?_ _ | refine blk_drew ?_ | refine blk_alloc ?_ _)); exact BK187.out) hb); have n2_ := Aside0.mk (below_step (by repeat (first | (with_reducible first | exact HB.out | apply below_alloc | apply pw_below_drewN | apply below_drew1 | refine below_set ?_ GE180.out | refine below_set ?_ GE187.out) | exact HB.out)) hb); clear BK180; clear BK187; clear HB; have BK180 := n0_; have BK187 := n1_; have HB := n2_; clear n0_ n1_ n2_; (try clear hb); (try clear hb2); (try clear hk); (try clear hi)))
                    repeat (go_quiet (first | ((with_reducible refine gate_dst (N := 6) rfl ?_); refine box_event ?hg (N := 6) ?hd (cs := #[.string (⟨#[]⟩ : ByteArray), .int .i64 0, .int .i64 0, .int .i64 0, .int .i64 0, .slice none 0 0]) (t := 64) ?hr ?_; (case hd => rfl); (case hg => rfl); (case hr => first | (go_simp; done) | (go_simp; rfl)); intro gb187 hg w36 hbox hb; have n0_ := Aside0.mk (blk_below (g := gb180) (o := .cells #[.int .i64 a0_0, .slice (some ad186) l0_1.length c0_1, .slice A0_2 l0_2.length c0_2, .slice A0_3 l0_3.length c0_3, .slice A0_4 l0_4.length c0_4, .int .i64 a0_5, .int .i64 a0_6, .int .i64 a0_7, .int .i64 a0_8, .int .i64 a0_9, .int .i64 a0_10, .int .i64 a0_11] 31 (0, 0)) (by (with_reducible repeat (first | refine blk_drewN ?_ _ | refine blk_drew ?_ | refine blk_alloc ?_ _)); exact BK180.out) hb); have n1_ := Aside0.mk (below_step (by repeat (first | (with_reducible first | exact HB.out | apply below_alloc | apply pw_below_drewN | apply below_drew1 | refine below_set ?_ GE180.out) | exact HB.out)) hb); have n2_ := Aside0.mk (hbox); have n3_ := Aside0.mk ((by rw [hg]; exact (below_size (by repeat (first | (with_reducible first | exact HB.out | apply below_alloc | apply pw_below_drewN | apply below_drew1 | refine below_set ?_ GE180.out) | exact HB.out))) : w.heap.size ≤ gb187)); have n4_ := Aside0.mk ((by rw [hg]; exact (below_size (by repeat (first | (with_reducible first | exact HB.out | apply below_alloc | apply pw_below_drewN | apply below_drew1 | refine below_set ?_ GE180.out) | exact HB.out))) : w.heap.size ≤ gb187)); have n5_ := Aside0.mk ((by rw [hg]; exact Nat.ne_of_lt (blk_lt (g := gb180) (o := .cells #[.int .i64 a0_0, .slice (some ad186) l0_1.length c0_1, .slice A0_2 l0_2.length c0_2, .slice A0_3 l0_3.length c0_3, .slice A0_4 l0_4.length c0_4, .int .i64 a0_5, .int .i64 a0_6, .int .i64 a0_7, .int .i64 a0_8, .int .i64 a0_9, .int .i64 a0_10, .int .i64 a0_11] 31 (0, 0)) (by (with_reducible repeat (first | refine blk_drewN ?_ _ | refine blk_drew ?_ | refine blk_alloc ?_ _)); exact BK180.out)) : gb180 ≠ gb187)); have n6_ := Aside0.mk ((by rw [hg]; exact Nat.ne_of_gt (blk_lt (g := gb180) (o := .cells #[.int .i64 a0_0, .slice (some ad186) l0_1.length c0_1, .slice A0_2 l0_2.length c0_2, .slice A0_3 l0_3.length c0_3, .slice A0_4 l0_4.length c0_4, .int .i64 a0_5, .int .i64 a0_6, .int .i64 a0_7, .int .i64 a0_8, .int .i64 a0_9, .int .i64 a0_10, .int .i64 a0_11] 31 (0, 0)) (by (with_reducible repeat (first | refine blk_drewN ?_ _ | refine blk_drew ?_ | refine blk_alloc ?_ _)); exact BK180.out)) : gb187 ≠ gb180)); clear BK180; clear HB; have BK180 := n0_; have HB := n1_; have BK187 := n2_; have GW187 := n3_; have GE187 := n4_; have NB180_187 := n5_; have NB187_180 := n6_; clear n0_ n1_ n2_ n3_ n4_ n5_ n6_; clear hb hbox hg; have hnb37 := NB187_180.out; have hnc37 := NB180_187.out; have hcz38_0 : w36.cell? ⟨gb187, 0, none⟩ = some (.string (⟨#[]⟩ : ByteArray)) := (blk_cell BK187.out 0).trans rfl; have hcz38_1 : w36.cell? ⟨gb187, 1, none⟩ = some (.int .i64 0) := (blk_cell BK187.out 1).trans rfl; have hcz38_2 : w36.cell? ⟨gb187, 2, none⟩ = some (.int .i64 0) := (blk_cell BK187.out 2).trans rfl; have hcz38_3 : w36.cell? ⟨gb187, 3, none⟩ = some (.int .i64 0) := (blk_cell BK187.out 3).trans rfl; have hcz38_4 : w36.cell? ⟨gb187, 4, none⟩ = some (.int .i64 0) := (blk_cell BK187.out 4).trans rfl; have hcz38_5 : w36.cell? ⟨gb187, 5, none⟩ = some (.slice none 0 0) := (blk_cell BK187.out 5).trans rfl; have hfz38_0 := blk_frozen BK187.out 0; have hfz38_1 := blk_frozen BK187.out 1; have hfz38_2 := blk_frozen BK187.out 2; have hfz38_3 := blk_frozen BK187.out 3; have hfz38_4 := blk_frozen BK187.out 4; have hfz38_5 := blk_frozen BK187.out 5; have hcz39_0 : w36.cell? ⟨gb180, 0, none⟩ = some (.int .i64 a0_0) := (blk_cell BK180.out 0).trans rfl; have hcz39_1 : w36.cell? ⟨gb180, 1, none⟩ = some (.slice (some ad186) l0_1.length c0_1) := (blk_cell BK180.out 1).trans rfl; have hcz39_2 : w36.cell? ⟨gb180, 2, none⟩ = some (.slice A0_2 l0_2.length c0_2) := (blk_cell BK180.out 2).trans rfl; have hcz39_3 : w36.cell? ⟨gb180, 3, none⟩ = some (.slice A0_3 l0_3.length c0_3) := (blk_cell BK180.out 3).trans rfl; have hcz39_4 : w36.cell? ⟨gb180, 4, none⟩ = some (.slice A0_4 l0_4.length c0_4) := (blk_cell BK180.out 4).trans rfl; have hcz39_5 : w36.cell? ⟨gb180, 5, none⟩ = some (.int .i64 a0_5) := (blk_cell BK180.out 5).trans rfl; have hcz39_6 : w36.cell? ⟨gb180, 6, none⟩ = some (.int .i64 a0_6) := (blk_cell BK180.out 6).trans rfl; have hcz39_7 : w36.cell? ⟨gb180, 7, none⟩ = some (.int .i64 a0_7) := (blk_cell BK180.out 7).trans rfl; have hcz39_8 : w36.cell? ⟨gb180, 8, none⟩ = some (.int .i64 a0_8) := (blk_cell BK180.out 8).trans rfl; have hcz39_9 : w36.cell? ⟨gb180, 9, none⟩ = some (.int .i64 a0_9) := (blk_cell BK180.out 9).trans rfl; have hcz39_10 : w36.cell? ⟨gb180, 10, none⟩ = some (.int .i64 a0_10) := (blk_cell BK180.out 10).trans rfl; have hcz39_11 : w36.cell? ⟨gb180, 11, none⟩ = some (.int .i64 a0_11) := (blk_cell BK180.out 11).trans rfl; have hfz39_0 := blk_frozen BK180.out 0; have hfz39_1 := blk_frozen BK180.out 1; have hfz39_2 := blk_frozen BK180.out 2; have hfz39_3 := blk_frozen BK180.out 3; have hfz39_4 := blk_frozen BK180.out 4; have hfz39_5 := blk_frozen BK180.out 5; have hfz39_6 := blk_frozen BK180.out 6; have hfz39_7 := blk_frozen BK180.out 7; have hfz39_8 := blk_frozen BK180.out 8; have hfz39_9 := blk_frozen BK180.out 9; have hfz39_10 := blk_frozen BK180.out 10; have hfz39_11 := blk_frozen BK180.out 11) | (go_at_call 38; (with_reducible refine (simulate_Config_offset.calls a0_0 _ _ l0_1 _ _ l0_2 _ _ l0_3 _ _ l0_4 a0_5 a0_6 a0_7 a0_8 a0_9 a0_10 a0_11 ((rd_T64 l0_1 x45_2).f1) t188 true _ ?side1 ?side2 ?side3 ?side4 ?side5 ?side6 ?side7 ?side8 A34.out).mono ?_); (case side1 => exact Kd.C_below HR0_1.out (by repeat (first | (with_reducible first | exact HB.out | apply below_alloc | apply pw_below_drewN | apply below_drew1 | refine below_set ?_ GE180.out | refine below_set ?_ GE187.out) | exact HB.out))); (case side2 => exact HC0_1.out); (case side3 => exact Kd.C_below HR0_2.out (by repeat (first | (with_reducible first | exact HB.out | apply below_alloc | apply pw_below_drewN | apply below_drew1 | refine below_set ?_ GE180.out | refine below_set ?_ GE187.out) | exact HB.out))); (case side4 => exact HC0_2.out); (case side5 => exact Kd.C_below HR0_3.out (by repeat (first | (with_reducible first | exact HB.out | apply below_alloc | apply pw_below_drewN | apply below_drew1 | refine below_set ?_ GE180.out | refine below_set ?_ GE187.out) | exact HB.out))); (case side6 => exact HC0_3.out); (case side7 => exact Kd.C_below HR0_4.out (by repeat (first | (with_reducible first | exact HB.out | apply below_alloc | apply pw_below_drewN | apply below_drew1 | refine below_set ?_ GE180.out | refine below_set ?_ GE187.out) | exact HB.out))); (case side8 => exact HC0_4.out); rintro e w40 ⟨rfl, hb⟩; have n0_ := Aside0.mk (blk_below (g := gb180) (o := .cells #[.int .i64 a0_0, .slice (some ad186) l0_1.length c0_1, .slice A0_2 l0_2.length c0_2, .slice A0_3 l0_3.length c0_3, .slice A0_4 l0_4.length c0_4, .int .i64 a0_5, .int .i64 a0_6, .int .i64 a0_7, .int .i64 a0_8, .int .i64 a0_9, .int .i64 a0_10, .int .i64 a0_11] 31 (0, 0)) (by (with_reducible repeat (first | refine blk_drewN ?_ _ | refine blk_drew ?_ | refine blk_alloc ?_ _)); refine blk_far ?_ NB180_187.out _; (with_reducible repeat (first | refine blk_drewN ?_ _ | refine blk_drew ?_ | refine blk_alloc ?_ _)); refine blk_far ?_ NB180_187.out _; (with_reducible repeat (first | refine blk_drewN ?_ _ | refine blk_drew ?_ | refine blk_alloc ?_ _)); refine blk_far ?_ NB180_187.out _; (with_reducible repeat (first | refine blk_drewN ?_ _ | refine blk_drew ?_ | refine blk_alloc ?_ _)); refine blk_far ?_ NB180_187.out _; (with_reducible repeat (first | refine blk_drewN ?_ _ | refine blk_drew ?_ | refine blk_alloc ?_ _)); refine blk_far ?_ NB180_187.out _; (with_reducible repeat (first | refine blk_drewN ?_ _ | refine blk_drew ?_ | refine blk_alloc ?_ _)); refine blk_far ?_ NB180_187.out _; (with_reducible repeat (first | refine blk_drewN ?_ _ | refine blk_drew ?_ | refine blk_alloc ?_ _)); exact BK180.out) hb); have n1_ := Aside0.mk (blk_below (g := gb187) (o := .cells #[.string ((rd_T64 l0_1 x45_2).f0), .int .i64 ((rd_T64 l0_1 x45_2).f1), .int .i64 ((rd_T64 l0_1 x45_2).f2), .int .i64 ((rd_T64 l0_1 x45_2).f3), .int .i64 ((rd_T64 l0_1 x45_2).f4), .slice A186_5 ((rd_T64 l0_1 x45_2).f5).length c186_5] 64 (0, 0)) (by (with_reducible repeat (first | refine blk_drewN ?_ _ | refine blk_drew ?_ | refine blk_alloc ?_ _)); refine blk_put (cs := #[.string ((rd_T64 l0_1 x45_2).f0), .int .i64 ((rd_T64 l0_1 x45_2).f1), .int .i64 ((rd_T64 l0_1 x45_2).f2), .int .i64 ((rd_T64 l0_1 x45_2).f3), .int .i64 ((rd_T64 l0_1 x45_2).f4), .slice none 0 0]) ?_ 5 _ rfl; (with_reducible repeat (first | refine blk_drewN ?_ _ | refine blk_drew ?_ | refine blk_alloc ?_ _)); refine blk_put (cs := #[.string ((rd_T64 l0_1 x45_2).f0), .int .i64 ((rd_T64 l0_1 x45_2).f1), .int .i64 ((rd_T64 l0_1 x45_2).f2), .int .i64 ((rd_T64 l0_1 x45_2).f3), .int .i64 0, .slice none 0 0]) ?_ 4 _ rfl; (with_reducible repeat (first | refine blk_drewN ?_ _ | refine blk_drew ?_ | refine blk_alloc ?_ _)); refine blk_put (cs := #[.string ((rd_T64 l0_1 x45_2).f0), .int .i64 ((rd_T64 l0_1 x45_2).f1), .int .i64 ((rd_T64 l0_1 x45_2).f2), .int .i64 0, .int .i64 0, .slice none 0 0]) ?_ 3 _ rfl; (with_reducible repeat (first | refine blk_drewN ?_ _ | refine blk_drew ?_ | refine blk_alloc ?_ _)); refine blk_put (cs := #[.string ((rd_T64 l0_1 x45_2).f0), .int .i64 ((rd_T64 l0_1 x45_2).f1), .int .i64 0, .int .i64 0, .int .i64 0, .slice none 0 0]) ?_ 2 _ rfl; (with_reducible repeat (first | refine blk_drewN ?_ _ | refine blk_drew ?_ | refine blk_alloc ?_ _)); refine blk_put (cs := #[.string ((rd_T64 l0_1 x45_2).f0), .int .i64 0, .int .i64 0, .int .i64 0, .int .i64 0, .slice none 0 0]) ?_ 1 _ rfl; (with_reducible repeat (first | refine blk_drewN ?_ _ | refine blk_drew ?_ | refine blk_alloc ?_ _)); refine blk_put (cs := #[.string (⟨#[]⟩ : ByteArray), .int .i64 0, .int .i64 0, .int .i64 0, .int .i64 0, .slice none 0 0]) ?_ 0 _ rfl; (with_reducible repeat (first | refine blk_drewN ?_ _ | refine blk_drew ?_ | refine blk_alloc ?_ _)); exact BK187.out) hb); have n2_ := Aside0.mk (below_step (by repeat (first | (with_reducible first | exact HB.out | apply below_alloc | apply pw_below_drewN | apply below_drew1 | refine below_set ?_ GE180.out | refine below_set ?_ GE187.out) | exact HB.out)) hb); clear BK180; clear BK187; clear HB; have BK180 := n0_; have BK187 := n1_; have HB := n2_; clear n0_ n1_ n2_; (try clear hb); (try clear hb2); (try clear hk); (try clear hi))); try go_wp2_with (first | ((with_reducible refine gate_dst (N := 6) rfl ?_); refine box_event ?hg (N := 6) ?hd (cs := #[.string (⟨#[]⟩ : ByteArray), .int .i64 0, .int .i64 0, .int .i64 0, .int .i64 0, .slice none 0 0]) (t := 64) ?hr ?_; (case hd => rfl); (case hg => rfl); (case hr => first | (go_simp; done) | (go_simp; rfl)); intro gb187 hg w36 hbox hb; have n0_ := Aside0.mk (blk_below (g := gb180) (o := .cells #[.int .i64 a0_0, .slice (some ad186) l0_1.length c0_1, .slice A0_2 l0_2.length c0_2, .slice A0_3 l0_3.length c0_3, .slice A0_4 l0_4.length c0_4, .int .i64 a0_5, .int .i64 a0_6, .int .i64 a0_7, .int .i64 a0_8, .int .i64 a0_9, .int .i64 a0_10, .int .i64 a0_11] 31 (0, 0)) (by (with_reducible repeat (first | refine blk_drewN ?_ _ | refine blk_drew ?_ | refine blk_alloc ?_ _)); exact BK180.out) hb); have n1_ := Aside0.mk (below_step (by repeat (first | (with_reducible first | exact HB.out | apply below_alloc | apply pw_below_drewN | apply below_drew1 | refine below_set ?_ GE180.out) | exact HB.out)) hb); have n2_ := Aside0.mk (hbox); have n3_ := Aside0.mk ((by rw [hg]; exact (below_size (by repeat (first | (with_reducible first | exact HB.out | apply below_alloc | apply pw_below_drewN | apply below_drew1 | refine below_set ?_ GE180.out) | exact HB.out))) : w.heap.size ≤ gb187)); have n4_ := Aside0.mk ((by rw [hg]; exact (below_size (by repeat (first | (with_reducible first | exact HB.out | apply below_alloc | apply pw_below_drewN | apply below_drew1 | refine below_set ?_ GE180.out) | exact HB.out))) : w.heap.size ≤ gb187)); have n5_ := Aside0.mk ((by rw [hg]; exact Nat.ne_of_lt (blk_lt (g := gb180) (o := .cells #[.int .i64 a0_0, .slice (some ad186) l0_1.length c0_1, .slice A0_2 l0_2.length c0_2, .slice A0_3 l0_3.length c0_3, .slice A0_4 l0_4.length c0_4, .int .i64 a0_5, .int .i64 a0_6, .int .i64 a0_7, .int .i64 a0_8, .int .i64 a0_9, .int .i64 a0_10, .int .i64 a0_11] 31 (0, 0)) (by (with_reducible repeat (first | refine blk_drewN ?_ _ | refine blk_drew ?_ | refine blk_alloc ?_ _)); exact BK180.out)) : gb180 ≠ gb187)); have n6_ := Aside0.mk ((by rw [hg]; exact Nat.ne_of_gt (blk_lt (g := gb180) (o := .cells #[.int .i64 a0_0, .slice (some ad186) l0_1.length c0_1, .slice A0_2 l0_2.length c0_2, .slice A0_3 l0_3.length c0_3, .slice A0_4 l0_4.length c0_4, .int .i64 a0_5, .int .i64 a0_6, .int .i64 a0_7, .int .i64 a0_8, .int .i64 a0_9, .int .i64 a0_10, .int .i64 a0_11] 31 (0, 0)) (by (with_reducible repeat (first | refine blk_drewN ?_ _ | refine blk_drew ?_ | refine blk_alloc ?_ _)); exact BK180.out)) : gb187 ≠ gb180)); clear BK180; clear HB; have BK180 := n0_; have HB := n1_; have BK187 := n2_; have GW187 := n3_; have GE187 := n4_; have NB180_187 := n5_; have NB187_180 := n6_; clear n0_ n1_ n2_ n3_ n4_ n5_ n6_; clear hb hbox hg; have hnb37 := NB187_180.out; have hnc37 := NB180_187.out; have hcz38_0 : w36.cell? ⟨gb187, 0, none⟩ = some (.string (⟨#[]⟩ : ByteArray)) := (blk_cell BK187.out 0).trans rfl; have hcz38_1 : w36.cell? ⟨gb187, 1, none⟩ = some (.int .i64 0) := (blk_cell BK187.out 1).trans rfl; have hcz38_2 : w36.cell? ⟨gb187, 2, none⟩ = some (.int .i64 0) := (blk_cell BK187.out 2).trans rfl; have hcz38_3 : w36.cell? ⟨gb187, 3, none⟩ = some (.int .i64 0) := (blk_cell BK187.out 3).trans rfl; have hcz38_4 : w36.cell? ⟨gb187, 4, none⟩ = some (.int .i64 0) := (blk_cell BK187.out 4).trans rfl; have hcz38_5 : w36.cell? ⟨gb187, 5, none⟩ = some (.slice none 0 0) := (blk_cell BK187.out 5).trans rfl; have hfz38_0 := blk_frozen BK187.out 0; have hfz38_1 := blk_frozen BK187.out 1; have hfz38_2 := blk_frozen BK187.out 2; have hfz38_3 := blk_frozen BK187.out 3; have hfz38_4 := blk_frozen BK187.out 4; have hfz38_5 := blk_frozen BK187.out 5; have hcz39_0 : w36.cell? ⟨gb180, 0, none⟩ = some (.int .i64 a0_0) := (blk_cell BK180.out 0).trans rfl; have hcz39_1 : w36.cell? ⟨gb180, 1, none⟩ = some (.slice (some ad186) l0_1.length c0_1) := (blk_cell BK180.out 1).trans rfl; have hcz39_2 : w36.cell? ⟨gb180, 2, none⟩ = some (.slice A0_2 l0_2.length c0_2) := (blk_cell BK180.out 2).trans rfl; have hcz39_3 : w36.cell? ⟨gb180, 3, none⟩ = some (.slice A0_3 l0_3.length c0_3) := (blk_cell BK180.out 3).trans rfl; have hcz39_4 : w36.cell? ⟨gb180, 4, none⟩ = some (.slice A0_4 l0_4.length c0_4) := (blk_cell BK180.out 4).trans rfl; have hcz39_5 : w36.cell? ⟨gb180, 5, none⟩ = some (.int .i64 a0_5) := (blk_cell BK180.out 5).trans rfl; have hcz39_6 : w36.cell? ⟨gb180, 6, none⟩ = some (.int .i64 a0_6) := (blk_cell BK180.out 6).trans rfl; have hcz39_7 : w36.cell? ⟨gb180, 7, none⟩ = some (.int .i64 a0_7) := (blk_cell BK180.out 7).trans rfl; have hcz39_8 : w36.cell? ⟨gb180, 8, none⟩ = some (.int .i64 a0_8) := (blk_cell BK180.out 8).trans rfl; have hcz39_9 : w36.cell? ⟨gb180, 9, none⟩ = some (.int .i64 a0_9) := (blk_cell BK180.out 9).trans rfl; have hcz39_10 : w36.cell? ⟨gb180, 10, none⟩ = some (.int .i64 a0_10) := (blk_cell BK180.out 10).trans rfl; have hcz39_11 : w36.cell? ⟨gb180, 11, none⟩ = some (.int .i64 a0_11) := (blk_cell BK180.out 11).trans rfl; have hfz39_0 := blk_frozen BK180.out 0; have hfz39_1 := blk_frozen BK180.out 1; have hfz39_2 := blk_frozen BK180.out 2; have hfz39_3 := blk_frozen BK180.out 3; have hfz39_4 := blk_frozen BK180.out 4; have hfz39_5 := blk_frozen BK180.out 5; have hfz39_6 := blk_frozen BK180.out 6; have hfz39_7 := blk_frozen BK180.out 7; have hfz39_8 := blk_frozen BK180.out 8; have hfz39_9 := blk_frozen BK180.out 9; have hfz39_10 := blk_frozen BK180.out 10; have hfz39_11 := blk_frozen BK180.out 11) | (go_at_call 38; (with_reducible refine (simulate_Config_offset.calls a0_0 _ _ l0_1 _ _ l0_2 _ _ l0_3 _ _ l0_4 a0_5 a0_6 a0_7 a0_8 a0_9 a0_10 a0_11 ((rd_T64 l0_1 x45_2).f1) t188 true _ ?side1 ?side2 ?side3 ?side4 ?side5 ?side6 ?side7 ?side8 A34.out).mono ?_); (case side1 => exact Kd.C_below HR0_1.out (by repeat (first | (with_reducible first | exact HB.out | apply below_alloc | apply pw_below_drewN | apply below_drew1 | refine below_set ?_ GE180.out | refine below_set ?_ GE187.out) | exact HB.out))); (case side2 => exact HC0_1.out); (case side3 => exact Kd.C_below HR0_2.out (by repeat (first | (with_reducible first | exact HB.out | apply below_alloc | apply pw_below_drewN | apply below_drew1 | refine below_set ?_ GE180.out | refine below_set ?_ GE187.out) | exact HB.out))); (case side4 => exact HC0_2.out); (case side5 => exact Kd.C_below HR0_3.out (by repeat (first | (with_reducible first | exact HB.out | apply below_alloc | apply pw_below_drewN | apply below_drew1 | refine below_set ?_ GE180.out | refine below_set ?_ GE187.out) | exact HB.out))); (case side6 => exact HC0_3.out); (case side7 => exact Kd.C_below HR0_4.out (by repeat (first | (with_reducible first | exact HB.out | apply below_alloc | apply pw_below_drewN | apply below_drew1 | refine below_set ?_ GE180.out | refine below_set ?_ GE187.out) | exact HB.out))); (case side8 => exact HC0_4.out); rintro e w40 ⟨rfl, hb⟩; have n0_ := Aside0.mk (blk_below (g := gb180) (o := .cells #[.int .i64 a0_0, .slice (some ad186) l0_1.length c0_1, .slice A0_2 l0_2.length c0_2, .slice A0_3 l0_3.length c0_3, .slice A0_4 l0_4.length c0_4, .int .i64 a0_5, .int .i64 a0_6, .int .i64 a0_7, .int .i64 a0_8, .int .i64 a0_9, .int .i64 a0_10, .int .i64 a0_11] 31 (0, 0)) (by (with_reducible repeat (first | refine blk_drewN ?_ _ | refine blk_drew ?_ | refine blk_alloc ?_ _)); refine blk_far ?_ NB180_187.out _; (with_reducible repeat (first | refine blk_drewN ?_ _ | refine blk_drew ?_ | refine blk_alloc ?_ _)); refine blk_far ?_ NB180_187.out _; (with_reducible repeat (first | refine blk_drewN ?_ _ | refine blk_drew ?_ | refine blk_alloc ?_ _)); refine blk_far ?_ NB180_187.out _; (with_reducible repeat (first | refine blk_drewN ?_ _ | refine blk_drew ?_ | refine blk_alloc ?_ _)); refine blk_far ?_ NB180_187.out _; (with_reducible repeat (first | refine blk_drewN ?_ _ | refine blk_drew ?_ | refine blk_alloc ?_ _)); refine blk_far ?_ NB180_187.out _; (with_reducible repeat (first | refine blk_drewN ?_ _ | refine blk_drew ?_ | refine blk_alloc ?_ _)); refine blk_far ?_ NB180_187.out _; (with_reducible repeat (first | refine blk_drewN ?_ _ | refine blk_drew ?_ | refine blk_alloc ?_ _)); exact BK180.out) hb); have n1_ := Aside0.mk (blk_below (g := gb187) (o := .cells #[.string ((rd_T64 l0_1 x45_2).f0), .int .i64 ((rd_T64 l0_1 x45_2).f1), .int .i64 ((rd_T64 l0_1 x45_2).f2), .int .i64 ((rd_T64 l0_1 x45_2).f3), .int .i64 ((rd_T64 l0_1 x45_2).f4), .slice A186_5 ((rd_T64 l0_1 x45_2).f5).length c186_5] 64 (0, 0)) (by (with_reducible repeat (first | refine blk_drewN ?_ _ | refine blk_drew ?_ | refine blk_alloc ?_ _)); refine blk_put (cs := #[.string ((rd_T64 l0_1 x45_2).f0), .int .i64 ((rd_T64 l0_1 x45_2).f1), .int .i64 ((rd_T64 l0_1 x45_2).f2), .int .i64 ((rd_T64 l0_1 x45_2).f3), .int .i64 ((rd_T64 l0_1 x45_2).f4), .slice none 0 0]) ?_ 5 _ rfl; (with_reducible repeat (first | refine blk_drewN ?_ _ | refine blk_drew ?_ | refine blk_alloc ?_ _)); refine blk_put (cs := #[.string ((rd_T64 l0_1 x45_2).f0), .int .i64 ((rd_T64 l0_1 x45_2).f1), .int .i64 ((rd_T64 l0_1 x45_2).f2), .int .i64 ((rd_T64 l0_1 x45_2).f3), .int .i64 0, .slice none 0 0]) ?_ 4 _ rfl; (with_reducible repeat (first | refine blk_drewN ?_ _ | refine blk_drew ?_ | refine blk_alloc ?_ _)); refine blk_put (cs := #[.string ((rd_T64 l0_1 x45_2).f0), .int .i64 ((rd_T64 l0_1 x45_2).f1), .int .i64 ((rd_T64 l0_1 x45_2).f2), .int .i64 0, .int .i64 0, .slice none 0 0]) ?_ 3 _ rfl; (with_reducible repeat (first | refine blk_drewN ?_ _ | refine blk_drew ?_ | refine blk_alloc ?_ _)); refine blk_put (cs := #[.string ((rd_T64 l0_1 x45_2).f0), .int .i64 ((rd_T64 l0_1 x45_2).f1), .int .i64 0, .int .i64 0, .int .i64 0, .slice none 0 0]) ?_ 2 _ rfl; (with_reducible repeat (first | refine blk_drewN ?_ _ | refine blk_drew ?_ | refine blk_alloc ?_ _)); refine blk_put (cs := #[.string ((rd_T64 l0_1 x45_2).f0), .int .i64 0, .int .i64 0, .int .i64 0, .int .i64 0, .slice none 0 0]) ?_ 1 _ rfl; (with_reducible repeat (first | refine blk_drewN ?_ _ | refine blk_drew ?_ | refine blk_alloc ?_ _)); refine blk_put (cs := #[.string (⟨#[]⟩ : ByteArray), .int .i64 0, .int .i64 0, .int .i64 0, .int .i64 0, .slice none 0 0]) ?_ 0 _ rfl; (with_reducible repeat (first | refine blk_drewN ?_ _ | refine blk_drew ?_ | refine blk_alloc ?_ _)); exact BK187.out) hb); have n2_ := Aside0.mk (below_step (by repeat (first | (with_reducible first | exact HB.out | apply below_alloc | apply pw_below_drewN | apply below_drew1 | refine below_set ?_ GE180.out | refine below_set ?_ GE187.out) | exact HB.out)) hb); clear BK180; clear BK187; clear HB; have BK180 := n0_; have BK187 := n1_; have HB := n2_; clear n0_ n1_ n2_; (try clear hb); (try clear hb2); (try clear hk); (try clear hi))))
                    go_roundg k2
                    case measure => have := HK1.out; have := HK2.out; omega
                    case rel => exact ⟨(wrap64 (x45_2 + 1)), (by first | rfl | (simp; done) | (simp [*]; done)), H', ⟨by have := HK1.out; have := HK2.out; omega⟩, ⟨by (with_reducible repeat (first | refine blk_drewN ?_ _ | refine blk_drew ?_ | refine blk_alloc ?_ _)); exact BK180.out⟩, ⟨by repeat (first | (with_reducible first | exact HB.out | apply below_alloc | apply pw_below_drewN | apply below_drew1 | refine below_set ?_ GE180.out | refine below_set ?_ GE187.out) | exact HB.out)⟩⟩
                  · replace c35 := Bool.eq_false_iff.mpr c35
                    subst c35
                    have H1 : (some 34) = some r := by rw [if_neg (show ¬ (false = true) by decide)] at H; exact H
                    clear H
                    have H := H1
                    clear H1
                    obtain rfl := Option.some.inj H
                    have p186 : 0 ≤ (x45_2 : Int) := of_decide_eq_true (by first | (with_reducible assumption) | assumption)
                    have q186 : x45_2 < (l0_1.length : Int) := of_decide_eq_true (by first | (with_reducible assumption) | assumption)
                    obtain ⟨ad186, A186_5, c186_5, e186, hx186_0, hx186_1, hx186_2, hx186_3, hx186_4, hx186_5, hl186_5, hi186_5⟩ := at_T64 HR0_1.out x45_2 p186 q186
                    cases e186
                    replace hx186_0 := (HB.out.cell (World.block_lt_of_cell? w _ hx186_0)).trans hx186_0
                    replace hx186_1 := (HB.out.cell (World.block_lt_of_cell? w _ hx186_1)).trans hx186_1
                    replace hx186_2 := (HB.out.cell (World.block_lt_of_cell? w _ hx186_2)).trans hx186_2
                    replace hx186_3 := (HB.out.cell (World.block_lt_of_cell? w _ hx186_3)).trans hx186_3
                    replace hx186_4 := (HB.out.cell (World.block_lt_of_cell? w _ hx186_4)).trans hx186_4
                    replace hx186_5 := (HB.out.cell (World.block_lt_of_cell? w _ hx186_5)).trans hx186_5
                    have HR186_5 := Aside0.mk hi186_5
                    have HC186_5 := Aside0.mk hl186_5
                    clear hi186_5 hl186_5
                    replace p186 := eq_true p186
                    replace q186 := eq_true q186
                    go_wp2_with (first | ((with_reducible refine gate_dst (N := 6) rfl ?_); refine box_event ?hg (N := 6) ?hd (cs := #[.string (⟨#[]⟩ : ByteArray), .int .i64 0, .int .i64 0, .int .i64 0, .int .i64 0, .slice none 0 0]) (t := 64) ?hr ?_; (case hd => rfl); (case hg => rfl); (case hr => first | (go_simp; done) | (go_simp; rfl)); intro gb187 hg w41 hbox hb; have n0_ := Aside0.mk (blk_below (g := gb180) (o := .cells #[.int .i64 a0_0, .slice (some ad186) l0_1.length c0_1, .slice A0_2 l0_2.length c0_2, .slice A0_3 l0_3.length c0_3, .slice A0_4 l0_4.length c0_4, .int .i64 a0_5, .int .i64 a0_6, .int .i64 a0_7, .int .i64 a0_8, .int .i64 a0_9, .int .i64 a0_10, .int .i64 a0_11] 31 (0, 0)) (by (with_reducible repeat (first | refine blk_drewN ?_ _ | refine blk_drew ?_ | refine blk_alloc ?_ _)); exact BK180.out) hb); have n1_ := Aside0.mk (below_step (by repeat (first | (with_reducible first | exact HB.out | apply below_alloc | apply pw_below_drewN | apply below_drew1 | refine below_set ?_ GE180.out) | exact HB.out)) hb); have n2_ := Aside0.mk (hbox); have n3_ := Aside0.mk ((by rw [hg]; exact (below_size (by repeat (first | (with_reducible first | exact HB.out | apply below_alloc | apply pw_below_drewN | apply below_drew1 | refine below_set ?_ GE180.out) | exact HB.out))) : w.heap.size ≤ gb187)); have n4_ := Aside0.mk ((by rw [hg]; exact (below_size (by repeat (first | (with_reducible first | exact HB.out | apply below_alloc | apply pw_below_drewN | apply below_drew1 | refine below_set ?_ GE180.out) | exact HB.out))) : w.heap.size ≤ gb187)); have n5_ := Aside0.mk ((by rw [hg]; exact Nat.ne_of_lt (blk_lt (g := gb180) (o := .cells #[.int .i64 a0_0, .slice (some ad186) l0_1.length c0_1, .slice A0_2 l0_2.length c0_2, .slice A0_3 l0_3.length c0_3, .slice A0_4 l0_4.length c0_4, .int .i64 a0_5, .int .i64 a0_6, .int .i64 a0_7, .int .i64 a0_8, .int .i64 a0_9, .int .i64 a0_10, .int .i64 a0_11] 31 (0, 0)) (by (with_reducible repeat (first | refine blk_drewN ?_ _ | refine blk_drew ?_ | refine blk_alloc ?_ _)); exact BK180.out)) : gb180 ≠ gb187)); have n6_ := Aside0.mk ((by rw [hg]; exact Nat.ne_of_gt (blk_lt (g := gb180) (o := .cells #[.int .i64 a0_0, .slice (some ad186) l0_1.length c0_1, .slice A0_2 l0_2.length c0_2, .slice A0_3 l0_3.length c0_3, .slice A0_4 l0_4.length c0_4, .int .i64 a0_5, .int .i64 a0_6, .int .i64 a0_7, .int .i64 a0_8, .int .i64 a0_9, .int .i64 a0_10, .int .i64 a0_11] 31 (0, 0)) (by (with_reducible repeat (first | refine blk_drewN ?_ _ | refine blk_drew ?_ | refine blk_alloc ?_ _)); exact BK180.out)) : gb187 ≠ gb180)); clear BK180; clear HB; have BK180 := n0_; have HB := n1_; have BK187 := n2_; have GW187 := n3_; have GE187 := n4_; have NB180_187 := n5_; have NB187_180 := n6_; clear n0_ n1_ n2_ n3_ n4_ n5_ n6_; clear hb hbox hg; have hnb42 := NB187_180.out; have hnc42 := NB180_187.out; have hcz43_0 : w41.cell? ⟨gb187, 0, none⟩ = some (.string (⟨#[]⟩ : ByteArray)) := (blk_cell BK187.out 0).trans rfl; have hcz43_1 : w41.cell? ⟨gb187, 1, none⟩ = some (.int .i64 0) := (blk_cell BK187.out 1).trans rfl; have hcz43_2 : w41.cell? ⟨gb187, 2, none⟩ = some (.int .i64 0) := (blk_cell BK187.out 2).trans rfl; have hcz43_3 : w41.cell? ⟨gb187, 3, none⟩ = some (.int .i64 0) := (blk_cell BK187.out 3).trans rfl; have hcz43_4 : w41.cell? ⟨gb187, 4, none⟩ = some (.int .i64 0) := (blk_cell BK187.out 4).trans rfl; have hcz43_5 : w41.cell? ⟨gb187, 5, none⟩ = some (.slice none 0 0) := (blk_cell BK187.out 5).trans rfl; have hfz43_0 := blk_frozen BK187.out 0; have hfz43_1 := blk_frozen BK187.out 1; have hfz43_2 := blk_frozen BK187.out 2; have hfz43_3 := blk_frozen BK187.out 3; have hfz43_4 := blk_frozen BK187.out 4; have hfz43_5 := blk_frozen BK187.out 5; have hcz44_0 : w41.cell? ⟨gb180, 0, none⟩ = some (.int .i64 a0_0) := (blk_cell BK180.out 0).trans rfl; have hcz44_1 : w41.cell? ⟨gb180, 1, none⟩ = some (.slice (some ad186) l0_1.length c0_1) := (blk_cell BK180.out 1).trans rfl; have hcz44_2 : w41.cell? ⟨gb180, 2, none⟩ = some (.slice A0_2 l0_2.length c0_2) := (blk_cell BK180.out 2).trans rfl; have hcz44_3 : w41.cell? ⟨gb180, 3, none⟩ = some (.slice A0_3 l0_3.length c0_3) := (blk_cell BK180.out 3).trans rfl; have hcz44_4 : w41.cell? ⟨gb180, 4, none⟩ = some (.slice A0_4 l0_4.length c0_4) := (blk_cell BK180.out 4).trans rfl; have hcz44_5 : w41.cell? ⟨gb180, 5, none⟩ = some (.int .i64 a0_5) := (blk_cell BK180.out 5).trans rfl; have hcz44_6 : w41.cell? ⟨gb180, 6, none⟩ = some (.int .i64 a0_6) := (blk_cell BK180.out 6).trans rfl; have hcz44_7 : w41.cell? ⟨gb180, 7, none⟩ = some (.int .i64 a0_7) := (blk_cell BK180.out 7).trans rfl; have hcz44_8 : w41.cell? ⟨gb180, 8, none⟩ = some (.int .i64 a0_8) := (blk_cell BK180.out 8).trans rfl; have hcz44_9 : w41.cell? ⟨gb180, 9, none⟩ = some (.int .i64 a0_9) := (blk_cell BK180.out 9).trans rfl; have hcz44_10 : w41.cell? ⟨gb180, 10, none⟩ = some (.int .i64 a0_10) := (blk_cell BK180.out 10).trans rfl; have hcz44_11 : w41.cell? ⟨gb180, 11, none⟩ = some (.int .i64 a0_11) := (blk_cell BK180.out 11).trans rfl; have hfz44_0 := blk_frozen BK180.out 0; have hfz44_1 := blk_frozen BK180.out 1; have hfz44_2 := blk_frozen BK180.out 2; have hfz44_3 := blk_frozen BK180.out 3; have hfz44_4 := blk_frozen BK180.out 4; have hfz44_5 := blk_frozen BK180.out 5; have hfz44_6 := blk_frozen BK180.out 6; have hfz44_7 := blk_frozen BK180.out 7; have hfz44_8 := blk_frozen BK180.out 8; have hfz44_9 := blk_frozen BK180.out 9; have hfz44_10 := blk_frozen BK180.out 10; have hfz44_11 := blk_frozen BK180.out 11) | (go_at_call 38; (with_reducible refine (simulate_Config_offset.calls a0_0 _ _ l0_1 _ _ l0_2 _ _ l0_3 _ _ l0_4 a0_5 a0_6 a0_7 a0_8 a0_9 a0_10 a0_11 ((rd_T64 l0_1 x45_2).f1) t188 false _ ?side1 ?side2 ?side3 ?side4 ?side5 ?side6 ?side7 ?side8 A34.out).mono ?_); (case side1 => exact Kd.C_below HR0_1.out (by repeat (first | (with_reducible first | exact HB.out | apply below_alloc | apply pw_below_drewN | apply below_drew1 | refine below_set ?_ GE180.out | refine below_set ?_ GE187.out) | exact HB.out))); (case side2 => exact HC0_1.out); (case side3 => exact Kd.C_below HR0_2.out (by repeat (first | (with_reducible first | exact HB.out | apply below_alloc | apply pw_below_drewN | apply below_drew1 | refine below_set ?_ GE180.out | refine below_set ?_ GE187.out) | exact HB.out))); (case side4 => exact HC0_2.out); (case side5 => exact Kd.C_below HR0_3.out (by repeat (first | (with_reducible first | exact HB.out | apply below_alloc | apply pw_below_drewN | apply below_drew1 | refine below_set ?_ GE180.out | refine below_set ?_ GE187.out) | exact HB.out))); (case side6 => exact HC0_3.out); (case side7 => exact Kd.C_below HR0_4.out (by repeat (first | (with_reducible first | exact HB.out | apply below_alloc | apply pw_below_drewN | apply below_drew1 | refine below_set ?_ GE180.out | refine below_set ?_ GE187.out) | exact HB.out))); (case side8 => exact HC0_4.out); rintro e w45 ⟨rfl, hb⟩; have n0_ := Aside0.mk (blk_below (g := gb180) (o := .cells #[.int .i64 a0_0, .slice (some ad186) l0_1.length c0_1, .slice A0_2 l0_2.length c0_2, .slice A0_3 l0_3.length c0_3, .slice A0_4 l0_4.length c0_4, .int .i64 a0_5, .int .i64 a0_6, .int .i64 a0_7, .int .i64 a0_8, .int .i64 a0_9, .int .i64 a0_10, .int .i64 a0_11] 31 (0, 0)) (by (with_reducible repeat (first | refine blk_drewN ?_ _ | refine blk_drew ?_ | refine blk_alloc ?_ _)); refine blk_far ?_ NB180_187.out _; (with_reducible repeat (first | refine blk_drewN ?_ _ | refine blk_drew ?_ | refine blk_alloc ?_ _)); refine blk_far ?_ NB180_187.out _; (with_reducible repeat (first | refine blk_drewN ?_ _ | refine blk_drew ?_ | refine blk_alloc ?_ _)); refine blk_far ?_ NB180_187.out _; (with_reducible repeat (first | refine blk_drewN ?_ _ | refine blk_drew ?_ | refine blk_alloc ?_ _)); refine blk_far ?_ NB180_187.out _; (with_reducible repeat (first | refine blk_drewN ?_ _ | refine blk_drew ?_ | refine blk_alloc ?_ _)); refine blk_far ?_ NB180_187.out _; (with_reducible repeat (first | refine blk_drewN ?_ _ | refine blk_drew ?_ | refine blk_alloc ?_ _)); refine blk_far ?_ NB180_187.out _; (with_reducible repeat (first | refine blk_drewN ?_ _ | refine blk_drew ?_ | refine blk_alloc ?_ _)); exact BK180.out) hb); have n1_ := Aside0.mk (blk_below (g := gb187) (o := .cells #[.string ((rd_T64 l0_1 x45_2).f0), .int .i64 ((rd_T64 l0_1 x45_2).f1), .int .i64 ((rd_T64 l0_1 x45_2).f2), .int .i64 ((rd_T64 l0_1 x45_2).f3), .int .i64 ((rd_T64 l0_1 x45_2).f4), .slice A186_5 ((rd_T64 l0_1 x45_2).f5).length c186_5] 64 (0, 0)) (by (with_reducible repeat (first | refine blk_drewN ?_ _ | refine blk_drew ?_ | refine blk_alloc ?_ _)); refine blk_put (cs := #[.string ((rd_T64 l0_1 x45_2).f0), .int .i64 ((rd_T64 l0_1 x45_2).f1), .int .i64 ((rd_T64 l0_1 x45_2).f2), .int .i64 ((rd_T64 l0_1 x45_2).f3), .int .i64 ((rd_T64 l0_1 x45_2).f4), .slice none 0 0]) ?_ 5 _ rfl; (with_reducible repeat (first | refine blk_drewN ?_ _ | refine blk_drew ?_ | refine blk_alloc ?_ _)); refine blk_put (cs := #[.string ((rd_T64 l0_1 x45_2).f0), .int .i64 ((rd_T64 l0_1 x45_2).f1), .int .i64 ((rd_T64 l0_1 x45_2).f2), .int .i64 ((rd_T64 l0_1 x45_2).f3), .int .i64 0, .slice none 0 0]) ?_ 4 _ rfl; (with_reducible repeat (first | refine blk_drewN ?_ _ | refine blk_drew ?_ | refine blk_alloc ?_ _)); refine blk_put (cs := #[.string ((rd_T64 l0_1 x45_2).f0), .int .i64 ((rd_T64 l0_1 x45_2).f1), .int .i64 ((rd_T64 l0_1 x45_2).f2), .int .i64 0, .int .i64 0, .slice none 0 0]) ?_ 3 _ rfl; (with_reducible repeat (first | refine blk_drewN ?_ _ | refine blk_drew ?_ | refine blk_alloc ?_ _)); refine blk_put (cs := #[.string ((rd_T64 l0_1 x45_2).f0), .int .i64 ((rd_T64 l0_1 x45_2).f1), .int .i64 0, .int .i64 0, .int .i64 0, .slice none 0 0]) ?_ 2 _ rfl; (with_reducible repeat (first | refine blk_drewN ?_ _ | refine blk_drew ?_ | refine blk_alloc ?_ _)); refine blk_put (cs := #[.string ((rd_T64 l0_1 x45_2).f0), .int .i64 0, .int .i64 0, .int .i64 0, .int .i64 0, .slice none 0 0]) ?_ 1 _ rfl; (with_reducible repeat (first | refine blk_drewN ?_ _ | refine blk_drew ?_ | refine blk_alloc ?_ _)); refine blk_put (cs := #[.string (⟨#[]⟩ : ByteArray), .int .i64 0, .int .i64 0, .int .i64 0, .int .i64 0, .slice none 0 0]) ?_ 0 _ rfl; (with_reducible repeat (first | refine blk_drewN ?_ _ | refine blk_drew ?_ | refine blk_alloc ?_ _)); exact BK187.out) hb); have n2_ := Aside0.mk (below_step (by repeat (first | (with_reducible first | exact HB.out | apply below_alloc | apply pw_below_drewN | apply below_drew1 | refine below_set ?_ GE180.out | refine below_set ?_ GE187.out) | exact HB.out)) hb); clear BK180; clear BK187; clear HB; have BK180 := n0_; have BK187 := n1_; have HB := n2_; clear n0_ n1_ n2_; (try clear hb); (try clear hb2); (try clear hk); (try clear hi)))
                    repeat (go_quiet (first | ((with_reducible refine gate_dst (N := 6) rfl ?_); refine box_event ?hg (N := 6) ?hd (cs := #[.string (⟨#[]⟩ : ByteArray), .int .i64 0, .int .i64 0, .int .i64 0, .int .i64 0, .slice none 0 0]) (t := 64) ?hr ?_; (case hd => rfl); (case hg => rfl); (case hr => first | (go_simp; done) | (go_simp; rfl)); intro gb187 hg w41 hbox hb; have n0_ := Aside0.mk (blk_below (g := gb180) (o := .cells #[.int .i64 a0_0, .slice (some ad186) l0_1.length c0_1, .slice A0_2 l0_2.length c0_2, .slice A0_3 l0_3.length c0_3, .slice A0_4 l0_4.length c0_4, .int .i64 a0_5, .int .i64 a0_6, .int .i64 a0_7, .int .i64 a0_8, .int .i64 a0_9, .int .i64 a0_10, .int .i64 a0_11] 31 (0, 0)) (by (with_reducible repeat (first | refine blk_drewN ?_ _ | refine blk_drew ?_ | refine blk_alloc ?_ _)); exact BK180.out) hb); have n1_ := Aside0.mk (below_step (by repeat (first | (with_reducible first | exact HB.out | apply below_alloc | apply pw_below_drewN | apply below_drew1 | refine below_set ?_ GE180.out) | exact HB.out)) hb); have n2_ := Aside0.mk (hbox); have n3_ := Aside0.mk ((by rw [hg]; exact (below_size (by repeat (first | (with_reducible first | exact HB.out | apply below_alloc | apply pw_below_drewN | apply below_drew1 | refine below_set ?_ GE180.out) | exact HB.out))) : w.heap.size ≤ gb187)); have n4_ := Aside0.mk ((by rw [hg]; exact (below_size (by repeat (first | (with_reducible first | exact HB.out | apply below_alloc | apply pw_below_drewN | apply below_drew1 | refine below_set ?_ GE180.out) | exact HB.out))) : w.heap.size ≤ gb187)); have n5_ := Aside0.mk ((by rw [hg]; exact Nat.ne_of_lt (blk_lt (g := gb180) (o := .cells #[.int .i64 a0_0, .slice (some ad186) l0_1.length c0_1, .slice A0_2 l0_2.length c0_2, .slice A0_3 l0_3.length c0_3, .slice A0_4 l0_4.length c0_4, .int .i64 a0_5, .int .i64 a0_6, .int .i64 a0_7, .int .i64 a0_8, .int .i64 a0_9, .int .i64 a0_10, .int .i64 a0_11] 31 (0, 0)) (by (with_reducible repeat (first | refine blk_drewN ?_ _ | refine blk_drew ?_ | refine blk_alloc ?_ _)); exact BK180.out)) : gb180 ≠ gb187)); have n6_ := Aside0.mk ((by rw [hg]; exact Nat.ne_of_gt (blk_lt (g := gb180) (o := .cells #[.int .i64 a0_0, .slice (some ad186) l0_1.length c0_1, .slice A0_2 l0_2.length c0_2, .slice A0_3 l0_3.length c0_3, .slice A0_4 l0_4.length c0_4, .int .i64 a0_5, .int .i64 a0_6, .int .i64 a0_7, .int .i64 a0_8, .int .i64 a0_9, .int .i64 a0_10, .int .i64 a0_11] 31 (0, 0)) (by (with_reducible repeat (first | refine blk_drewN ?_ _ | refine blk_drew ?_ | refine blk_alloc ?_ _)); exact BK180.out)) : gb187 ≠ gb180)); clear BK180; clear HB; have BK180 := n0_; have HB := n1_; have BK187 := n2_; have GW187 := n3_; have GE187 := n4_; have NB180_187 := n5_; have NB187_180 := n6_; clear n0_ n1_ n2_ n3_ n4_ n5_ n6_; clear hb hbox hg; have hnb42 := NB187_180.out; have hnc42 := NB180_187.out; have hcz43_0 : w41.cell? ⟨gb187, 0, none⟩ = some (.string (⟨#[]⟩ : ByteArray)) := (blk_cell BK187.out 0).trans rfl; have hcz43_1 : w41.cell? ⟨gb187, 1, none⟩ = some (.int .i64 0) := (blk_cell BK187.out 1).trans rfl; have hcz43_2 : w41.cell? ⟨gb187, 2, none⟩ = some (.int .i64 0) := (blk_cell BK187.out 2).trans rfl; have hcz43_3 : w41.cell? ⟨gb187, 3, none⟩ = some (.int .i64 0) := (blk_cell BK187.out 3).trans rfl; have hcz43_4 : w41.cell? ⟨gb187, 4, none⟩ = some (.int .i64 0) := (blk_cell BK187.out 4).trans rfl; have hcz43_5 : w41.cell? ⟨gb187, 5, none⟩ = some (.slice none 0 0) := (blk_cell BK187.out 5).trans rfl; have hfz43_0 := blk_frozen BK187.out 0; have hfz43_1 := blk_frozen BK187.out 1; have hfz43_2 := blk_frozen BK187.out 2; have hfz43_3 := blk_frozen BK187.out 3; have hfz43_4 := blk_frozen BK187.out 4; have hfz43_5 := blk_frozen BK187.out 5; have hcz44_0 : w41.cell? ⟨gb180, 0, none⟩ = some (.int .i64 a0_0) := (blk_cell BK180.out 0).trans rfl; have hcz44_1 : w41.cell? ⟨gb180, 1, none⟩ = some (.slice (some ad186) l0_1.length c0_1) := (blk_cell BK180.out 1).trans rfl; have hcz44_2 : w41.cell? ⟨gb180, 2, none⟩ = some (.slice A0_2 l0_2.length c0_2) := (blk_cell BK180.out 2).trans rfl; have hcz44_3 : w41.cell? ⟨gb180, 3, none⟩ = some (.slice A0_3 l0_3.length c0_3) := (blk_cell BK180.out 3).trans rfl; have hcz44_4 : w41.cell? ⟨gb180, 4, none⟩ = some (.slice A0_4 l0_4.length c0_4) := (blk_cell BK180.out 4).trans rfl; have hcz44_5 : w41.cell? ⟨gb180, 5, none⟩ = some (.int .i64 a0_5) := (blk_cell BK180.out 5).trans rfl; have hcz44_6 : w41.cell? ⟨gb180, 6, none⟩ = some (.int .i64 a0_6) := (blk_cell BK180.out 6).trans rfl; have hcz44_7 : w41.cell? ⟨gb180, 7, none⟩ = some (.int .i64 a0_7) := (blk_cell BK180.out 7).trans rfl; have hcz44_8 : w41.cell? ⟨gb180, 8, none⟩ = some (.int .i64 a0_8) := (blk_cell BK180.out 8).trans rfl; have hcz44_9 : w41.cell? ⟨gb180, 9, none⟩ = some (.int .i64 a0_9) := (blk_cell BK180.out 9).trans rfl; have hcz44_10 : w41.cell? ⟨gb180, 10, none⟩ = some (.int .i64 a0_10) := (blk_cell BK180.out 10).trans rfl; have hcz44_11 : w41.cell? ⟨gb180, 11, none⟩ = some (.int .i64 a0_11) := (blk_cell BK180.out 11).trans rfl; have hfz44_0 := blk_frozen BK180.out 0; have hfz44_1 := blk_frozen BK180.out 1; have hfz44_2 := blk_frozen BK180.out 2; have hfz44_3 := blk_frozen BK180.out 3; have hfz44_4 := blk_frozen BK180.out 4; have hfz44_5 := blk_frozen BK180.out 5; have hfz44_6 := blk_frozen BK180.out 6; have hfz44_7 := blk_frozen BK180.out 7; have hfz44_8 := blk_frozen BK180.out 8; have hfz44_9 := blk_frozen BK180.out 9; have hfz44_10 := blk_frozen BK180.out 10; have hfz44_11 := blk_frozen BK180.out 11) | (go_at_call 38; (with_reducible refine (simulate_Config_offset.calls a0_0 _ _ l0_1 _ _ l0_2 _ _ l0_3 _ _ l0_4 a0_5 a0_6 a0_7 a0_8 a0_9 a0_10 a0_11 ((rd_T64 l0_1 x45_2).f1) t188 false _ ?side1 ?side2 ?side3 ?side4 ?side5 ?side6 ?side7 ?side8 A34.out).mono ?_); (case side1 => exact Kd.C_below HR0_1.out (by repeat (first | (with_reducible first | exact HB.out | apply below_alloc | apply pw_below_drewN | apply below_drew1 | refine below_set ?_ GE180.out | refine below_set ?_ GE187.out) | exact HB.out))); (case side2 => exact HC0_1.out); (case side3 => exact Kd.C_below HR0_2.out (by repeat (first | (with_reducible first | exact HB.out | apply below_alloc | apply pw_below_drewN | apply below_drew1 | refine below_set ?_ GE180.out | refine below_set ?_ GE187.out) | exact HB.out))); (case side4 => exact HC0_2.out); (case side5 => exact Kd.C_below HR0_3.out (by repeat (first | (with_reducible first | exact HB.out | apply below_alloc | apply pw_below_drewN | apply below_drew1 | refine below_set ?_ GE180.out | refine below_set ?_ GE187.out) | exact HB.out))); (case side6 => exact HC0_3.out); (case side7 => exact Kd.C_below HR0_4.out (by repeat (first | (with_reducible first | exact HB.out | apply below_alloc | apply pw_below_drewN | apply below_drew1 | refine below_set ?_ GE180.out | refine below_set ?_ GE187.out) | exact HB.out))); (case side8 => exact HC0_4.out); rintro e w45 ⟨rfl, hb⟩; have n0_ := Aside0.mk (blk_below (g := gb180) (o := .cells #[.int .i64 a0_0, .slice (some ad186) l0_1.length c0_1, .slice A0_2 l0_2.length c0_2, .slice A0_3 l0_3.length c0_3, .slice A0_4 l0_4.length c0_4, .int .i64 a0_5, .int .i64 a0_6, .int .i64 a0_7, .int .i64 a0_8, .int .i64 a0_9, .int .i64 a0_10, .int .i64 a0_11] 31 (0, 0)) (by (with_reducible repeat (first | refine blk_drewN ?_ _ | refine blk_drew ?_ | refine blk_alloc ?_ _)); refine blk_far ?_ NB180_187.out _; (with_reducible repeat (first | refine blk_drewN ?_ _ | refine blk_drew ?_ | refine blk_alloc ?_ _)); refine blk_far ?_ NB180_187.out _; (with_reducible repeat (first | refine blk_drewN ?_ _ | refine blk_drew ?_ | refine blk_alloc ?_ _)); refine blk_far ?_ NB180_187.out _; (with_reducible repeat (first | refine blk_drewN ?_ _ | refine blk_drew ?_ | refine blk_alloc ?_ _)); refine blk_far ?_ NB180_187.out _; (with_reducible repeat (first | refine blk_drewN ?_ _ | refine blk_drew ?_ | refine blk_alloc ?_ _)); refine blk_far ?_ NB180_187.out _; (with_reducible repeat (first | refine blk_drewN ?_ _ | refine blk_drew ?_ | refine blk_alloc ?_ _)); refine blk_far ?_ NB180_187.out _; (with_reducible repeat (first | refine blk_drewN ?_ _ | refine blk_drew ?_ | refine blk_alloc ?_ _)); exact BK180.out) hb); have n1_ := Aside0.mk (blk_below (g := gb187) (o := .cells #[.string ((rd_T64 l0_1 x45_2).f0), .int .i64 ((rd_T64 l0_1 x45_2).f1), .int .i64 ((rd_T64 l0_1 x45_2).f2), .int .i64 ((rd_T64 l0_1 x45_2).f3), .int .i64 ((rd_T64 l0_1 x45_2).f4), .slice A186_5 ((rd_T64 l0_1 x45_2).f5).length c186_5] 64 (0, 0)) (by (with_reducible repeat (first | refine blk_drewN ?_ _ | refine blk_drew ?_ | refine blk_alloc ?_ _)); refine blk_put (cs := #[.string ((rd_T64 l0_1 x45_2).f0), .int .i64 ((rd_T64 l0_1 x45_2).f1), .int .i64 ((rd_T64 l0_1 x45_2).f2), .int .i64 ((rd_T64 l0_1 x45_2).f3), .int .i64 ((rd_T64 l0_1 x45_2).f4), .slice none 0 0]) ?_ 5 _ rfl; (with_reducible repeat (first | refine blk_drewN ?_ _ | refine blk_drew ?_ | refine blk_alloc ?_ _)); refine blk_put (cs := #[.string ((rd_T64 l0_1 x45_2).f0), .int .i64 ((rd_T64 l0_1 x45_2).f1), .int .i64 ((rd_T64 l0_1 x45_2).f2), .int .i64 ((rd_T64 l0_1 x45_2).f3), .int .i64 0, .slice none 0 0]) ?_ 4 _ rfl; (with_reducible repeat (first | refine blk_drewN ?_ _ | refine blk_drew ?_ | refine blk_alloc ?_ _)); refine blk_put (cs := #[.string ((rd_T64 l0_1 x45_2).f0), .int .i64 ((rd_T64 l0_1 x45_2).f1), .int .i64 ((rd_T64 l0_1 x45_2).f2), .int .i64 0, .int .i64 0, .slice none 0 0]) ?_ 3 _ rfl; (with_reducible repeat (first | refine blk_drewN ?_ _ | refine blk_drew ?_ | refine blk_alloc ?_ _)); refine blk_put (cs := #[.string ((rd_T64 l0_1 x45_2).f0), .int .i64 ((rd_T64 l0_1 x45_2).f1), .int .i64 0, .int .i64 0, .int .i64 0, .slice none 0 0]) ?_ 2 _ rfl; (with_reducible repeat (first | refine blk_drewN ?_ _ | refine blk_drew ?_ | refine blk_alloc ?_ _)); refine blk_put (cs := #[.string ((rd_T64 l0_1 x45_2).f0), .int .i64 0, .int .i64 0, .int .i64 0, .int .i64 0, .slice none 0 0]) ?_ 1 _ rfl; (with_reducible repeat (first | refine blk_drewN ?_ _ | refine blk_drew ?_ | refine blk_alloc ?_ _)); refine blk_put (cs := #[.string (⟨#[]⟩ : ByteArray), .int .i64 0, .int .i64 0, .int .i64 0, .int .i64 0, .slice none 0 0]) ?_ 0 _ rfl; (with_reducible repeat (first | refine blk_drewN ?_ _ | refine blk_drew ?_ | refine blk_alloc ?_ _)); exact BK187.out) hb); have n2_ := Aside0.mk (below_step (by repeat (first | (with_reducible first | exact HB.out | apply below_alloc | apply pw_below_drewN | apply below_drew1 | refine below_set ?_ GE180.out | refine below_set ?_ GE187.out) | exact HB.out)) hb); clear BK180; clear BK187; clear HB; have BK180 := n0_; have BK187 := n1_; have HB := n2_; clear n0_ n1_ n2_; (try clear hb); (try clear hb2); (try clear hk); (try clear hi))); try go_wp2_with (first | ((with_reducible refine gate_dst (N := 6) rfl ?_); refine box_event ?hg (N := 6) ?hd (cs := #[.string (⟨#[]⟩ : ByteArray), .int .i64 0, .int .i64 0, .int .i64 0, .int .i64 0, .slice none 0 0]) (t := 64) ?hr ?_; (case hd => rfl); (case hg => rfl); (case hr => first | (go_simp; done) | (go_simp; rfl)); intro gb187 hg w41 hbox hb; have n0_ := Aside0.mk (blk_below (g := gb180) (o := .cells #[.int .i64 a0_0, .slice (some ad186) l0_1.length c0_1, .slice A0_2 l0_2.length c0_2, .slice A0_3 l0_3.length c0_3, .slice A0_4 l0_4.length c0_4, .int .i64 a0_5, .int .i64 a0_6, .int .i64 a0_7, .int .i64 a0_8, .int .i64 a0_9, .int .i64 a0_10, .int .i64 a0_11] 31 (0, 0)) (by (with_reducible repeat (first | refine blk_drewN ?_ _ | refine blk_drew ?_ | refine blk_alloc ?_ _)); exact BK180.out) hb); have n1_ := Aside0.mk (below_step (by repeat (first | (with_reducible first | exact HB.out | apply below_alloc | apply pw_below_drewN | apply below_drew1 | refine below_set ?_ GE180.out) | exact HB.out)) hb); have n2_ := Aside0.mk (hbox); have n3_ := Aside0.mk ((by rw [hg]; exact (below_size (by repeat (first | (with_reducible first | exact HB.out | apply below_alloc | apply pw_below_drewN | apply below_drew1 | refine below_set ?_ GE180.out) | exact HB.out))) : w.heap.size ≤ gb187)); have n4_ := Aside0.mk ((by rw [hg]; exact (below_size (by repeat (first | (with_reducible first | exact HB.out | apply below_alloc | apply pw_below_drewN | apply below_drew1 | refine below_set ?_ GE180.out) | exact HB.out))) : w.heap.size ≤ gb187)); have n5_ := Aside0.mk ((by rw [hg]; exact Nat.ne_of_lt (blk_lt (g := gb180) (o := .cells #[.int .i64 a0_0, .slice (some ad186) l0_1.length c0_1, .slice A0_2 l0_2.length c0_2, .slice A0_3 l0_3.length c0_3, .slice A0_4 l0_4.length c0_4, .int .i64 a0_5, .int .i64 a0_6, .int .i64 a0_7, .int .i64 a0_8, .int .i64 a0_9, .int .i64 a0_10, .int .i64 a0_11] 31 (0, 0)) (by (with_reducible repeat (first | refine blk_drewN ?_ _ | refine blk_drew ?_ | refine blk_alloc ?_ _)); exact BK180.out)) : gb180 ≠ gb187)); have n6_ := Aside0.mk ((by rw [hg]; exact Nat.ne_of_gt (blk_lt (g := gb180) (o := .cells #[.int .i64 a0_0, .slice (some ad186) l0_1.length c0_1, .slice A0_2 l0_2.length c0_2, .slice A0_3 l0_3.length c0_3, .slice A0_4 l0_4.length c0_4, .int .i64 a0_5, .int .i64 a0_6, .int .i64 a0_7, .int .i64 a0_8, .int .i64 a0_9, .int .i64 a0_10, .int .i64 a0_11] 31 (0, 0)) (by (with_reducible repeat (first | refine blk_drewN ?_ _ | refine blk_drew ?_ | refine blk_alloc ?_ _)); exact BK180.out)) : gb187 ≠ gb180)); clear BK180; clear HB; have BK180 := n0_; have HB := n1_; have BK187 := n2_; have GW187 := n3_; have GE187 := n4_; have NB180_187 := n5_; have NB187_180 := n6_; clear n0_ n1_ n2_ n3_ n4_ n5_ n6_; clear hb hbox hg; have hnb42 := NB187_180.out; have hnc42 := NB180_187.out; have hcz43_0 : w41.cell? ⟨gb187, 0, none⟩ = some (.string (⟨#[]⟩ : ByteArray)) := (blk_cell BK187.out 0).trans rfl; have hcz43_1 : w41.cell? ⟨gb187, 1, none⟩ = some (.int .i64 0) := (blk_cell BK187.out 1).trans rfl; have hcz43_2 : w41.cell? ⟨gb187, 2, none⟩ = some (.int .i64 0) := (blk_cell BK187.out 2).trans rfl; have hcz43_3 : w41.cell? ⟨gb187, 3, none⟩ = some (.int .i64 0) := (blk_cell BK187.out 3).trans rfl; have hcz43_4 : w41.cell? ⟨gb187, 4, none⟩ = some (.int .i64 0) := (blk_cell BK187.out 4).trans rfl; have hcz43_5 : w41.cell? ⟨gb187, 5, none⟩ = some (.slice none 0 0) := (blk_cell BK187.out 5).trans rfl; have hfz43_0 := blk_frozen BK187.out 0; have hfz43_1 := blk_frozen BK187.out 1; have hfz43_2 := blk_frozen BK187.out 2; have hfz43_3 := blk_frozen BK187.out 3; have hfz43_4 := blk_frozen BK187.out 4; have hfz43_5 := blk_frozen BK187.out 5; have hcz44_0 : w41.cell? ⟨gb180, 0, none⟩ = some (.int .i64 a0_0) := (blk_cell BK180.out 0).trans rfl; have hcz44_1 : w41.cell? ⟨gb180, 1, none⟩ = some (.slice (some ad186) l0_1.length c0_1) := (blk_cell BK180.out 1).trans rfl; have hcz44_2 : w41.cell? ⟨gb180, 2, none⟩ = some (.slice A0_2 l0_2.length c0_2) := (blk_cell BK180.out 2).trans rfl; have hcz44_3 : w41.cell? ⟨gb180, 3, none⟩ = some (.slice A0_3 l0_3.length c0_3) := (blk_cell BK180.out 3).trans rfl; have hcz44_4 : w41.cell? ⟨gb180, 4, none⟩ = some (.slice A0_4 l0_4.length c0_4) := (blk_cell BK180.out 4).trans rfl; have hcz44_5 : w41.cell? ⟨gb180, 5, none⟩ = some (.int .i64 a0_5) := (blk_cell BK180.out 5).trans rfl; have hcz44_6 : w41.cell? ⟨gb180, 6, none⟩ = some (.int .i64 a0_6) := (blk_cell BK180.out 6).trans rfl; have hcz44_7 : w41.cell? ⟨gb180, 7, none⟩ = some (.int .i64 a0_7) := (blk_cell BK180.out 7).trans rfl; have hcz44_8 : w41.cell? ⟨gb180, 8, none⟩ = some (.int .i64 a0_8) := (blk_cell BK180.out 8).trans rfl; have hcz44_9 : w41.cell? ⟨gb180, 9, none⟩ = some (.int .i64 a0_9) := (blk_cell BK180.out 9).trans rfl; have hcz44_10 : w41.cell? ⟨gb180, 10, none⟩ = some (.int .i64 a0_10) := (blk_cell BK180.out 10).trans rfl; have hcz44_11 : w41.cell? ⟨gb180, 11, none⟩ = some (.int .i64 a0_11) := (blk_cell BK180.out 11).trans rfl; have hfz44_0 := blk_frozen BK180.out 0; have hfz44_1 := blk_frozen BK180.out 1; have hfz44_2 := blk_frozen BK180.out 2; have hfz44_3 := blk_frozen BK180.out 3; have hfz44_4 := blk_frozen BK180.out 4; have hfz44_5 := blk_frozen BK180.out 5; have hfz44_6 := blk_frozen BK180.out 6; have hfz44_7 := blk_frozen BK180.out 7; have hfz44_8 := blk_frozen BK180.out 8; have hfz44_9 := blk_frozen BK180.out 9; have hfz44_10 := blk_frozen BK180.out 10; have hfz44_11 := blk_frozen BK180.out 11) | (go_at_call 38; (with_reducible refine (simulate_Config_offset.calls a0_0 _ _ l0_1 _ _ l0_2 _ _ l0_3 _ _ l0_4 a0_5 a0_6 a0_7 a0_8 a0_9 a0_10 a0_11 ((rd_T64 l0_1 x45_2).f1) t188 false _ ?side1 ?side2 ?side3 ?side4 ?side5 ?side6 ?side7 ?side8 A34.out).mono ?_); (case side1 => exact Kd.C_below HR0_1.out (by repeat (first | (with_reducible first | exact HB.out | apply below_alloc | apply pw_below_drewN | apply below_drew1 | refine below_set ?_ GE180.out | refine below_set ?_ GE187.out) | exact HB.out))); (case side2 => exact HC0_1.out); (case side3 => exact Kd.C_below HR0_2.out (by repeat (first | (with_reducible first | exact HB.out | apply below_alloc | apply pw_below_drewN | apply below_drew1 | refine below_set ?_ GE180.out | refine below_set ?_ GE187.out) | exact HB.out))); (case side4 => exact HC0_2.out); (case side5 => exact Kd.C_below HR0_3.out (by repeat (first | (with_reducible first | exact HB.out | apply below_alloc | apply pw_below_drewN | apply below_drew1 | refine below_set ?_ GE180.out | refine below_set ?_ GE187.out) | exact HB.out))); (case side6 => exact HC0_3.out); (case side7 => exact Kd.C_below HR0_4.out (by repeat (first | (with_reducible first | exact HB.out | apply below_alloc | apply pw_below_drewN | apply below_drew1 | refine below_set ?_ GE180.out | refine below_set ?_ GE187.out) | exact HB.out))); (case side8 => exact HC0_4.out); rintro e w45 ⟨rfl, hb⟩; have n0_ := Aside0.mk (blk_below (g := gb180) (o := .cells #[.int .i64 a0_0, .slice (some ad186) l0_1.length c0_1, .slice A0_2 l0_2.length c0_2, .slice A0_3 l0_3.length c0_3, .slice A0_4 l0_4.length c0_4, .int .i64 a0_5, .int .i64 a0_6, .int .i64 a0_7, .int .i64 a0_8, .int .i64 a0_9, .int .i64 a0_10, .int .i64 a0_11] 31 (0, 0)) (by (with_reducible repeat (first | refine blk_drewN ?_ _ | refine blk_drew ?_ | refine blk_alloc ?_ _)); refine blk_far ?_ NB180_187.out _; (with_reducible repeat (first | refine blk_drewN ?_ _ | refine blk_drew ?_ | refine blk_alloc ?_ _)); refine blk_far ?_ NB180_187.out _; (with_reducible repeat (first | refine blk_drewN ?_ _ | refine blk_drew ?_ | refine blk_alloc ?_ _)); refine blk_far ?_ NB180_187.out _; (with_reducible repeat (first | refine blk_drewN ?_ _ | refine blk_drew ?_ | refine blk_alloc ?_ _)); refine blk_far ?_ NB180_187.out _; (with_reducible repeat (first | refine blk_drewN ?_ _ | refine blk_drew ?_ | refine blk_alloc ?_ _)); refine blk_far ?_ NB180_187.out _; (with_reducible repeat (first | refine blk_drewN ?_ _ | refine blk_drew ?_ | refine blk_alloc ?_ _)); refine blk_far ?_ NB180_187.out _; (with_reducible repeat (first | refine blk_drewN ?_ _ | refine blk_drew ?_ | refine blk_alloc ?_ _)); exact BK180.out) hb); have n1_ := Aside0.mk (blk_below (g := gb187) (o := .cells #[.string ((rd_T64 l0_1 x45_2).f0), .int .i64 ((rd_T64 l0_1 x45_2).f1), .int .i64 ((rd_T64 l0_1 x45_2).f2), .int .i64 ((rd_T64 l0_1 x45_2).f3), .int .i64 ((rd_T64 l0_1 x45_2).f4), .slice A186_5 ((rd_T64 l0_1 x45_2).f5).length c186_5] 64 (0, 0)) (by (with_reducible repeat (first | refine blk_drewN ?_ _ | refine blk_drew ?_ | refine blk_alloc ?_ _)); refine blk_put (cs := #[.string ((rd_T64 l0_1 x45_2).f0), .int .i64 ((rd_T64 l0_1 x45_2).f1), .int .i64 ((rd_T64 l0_1 x45_2).f2), .int .i64 ((rd_T64 l0_1 x45_2).f3), .int .i64 ((rd_T64 l0_1 x45_2).f4), .slice none 0 0]) ?_ 5 _ rfl; (with_reducible repeat (first | refine blk_drewN ?_ _ | refine blk_drew ?_ | refine blk_alloc ?_ _)); refine blk_put (cs := #[.string ((rd_T64 l0_1 x45_2).f0), .int .i64 ((rd_T64 l0_1 x45_2).f1), .int .i64 ((rd_T64 l0_1 x45_2).f2), .int .i64 ((rd_T64 l0_1 x45_2).f3), .int .i64 0, .slice none 0 0]) ?_ 4 _ rfl; (with_reducible repeat (first | refine blk_drewN ?_ _ | refine blk_drew ?_ | refine blk_alloc ?_ _)); refine blk_put (cs := #[.string ((rd_T64 l0_1 x45_2).f0), .int .i64 ((rd_T64 l0_1 x45_2).f1), .int .i64 ((rd_T64 l0_1 x45_2).f2), .int .i64 0, .int .i64 0, .slice none 0 0]) ?_ 3 _ rfl; (with_reducible repeat (first | refine blk_drewN ?_ _ | refine blk_drew ?_ | refine blk_alloc ?_ _)); refine blk_put (cs := #[.string ((rd_T64 l0_1 x45_2).f0), .int .i64 ((rd_T64 l0_1 x45_2).f1), .int .i64 0, .int .i64 0, .int .i64 0, .slice none 0 0]) ?_ 2 _ rfl; (with_reducible repeat (first | refine blk_drewN ?_ _ | refine blk_drew ?_ | refine blk_alloc ?_ _)); refine blk_put (cs := #[.string ((rd_T64 l0_1 x45_2).f0), .int .i64 0, .int .i64 0, .int .i64 0, .int .i64 0, .slice none 0 0]) ?_ 1 _ rfl; (with_reducible repeat (first | refine blk_drewN ?_ _ | refine blk_drew ?_ | refine blk_alloc ?_ _)); refine blk_put (cs := #[.string (⟨#[]⟩ : ByteArray), .int .i64 0, .int .i64 0, .int .i64 0, .int .i64 0, .slice none 0 0]) ?_ 0 _ rfl; (with_reducible repeat (first | refine blk_drewN ?_ _ | refine blk_drew ?_ | refine blk_alloc ?_ _)); exact BK187.out) hb); have n2_ := Aside0.mk (below_step (by repeat (first | (with_reducible first | exact HB.out | apply below_alloc | apply pw_below_drewN | apply below_drew1 | refine below_set ?_ GE180.out | refine below_set ?_ GE187.out) | exact HB.out)) hb); clear BK180; clear BK187; clear HB; have BK180 := n0_; have BK187 := n1_; have HB := n2_; clear n0_ n1_ n2_; (try clear hb); (try clear hb2); (try clear hk); (try clear hi))))
                    go_ret
                    exact ⟨by first | rfl | (simp [errW_none, errW_some] <;> rfl) | (simp [*, errW_none, errW_some] <;> rfl), by repeat (first | (with_reducible first | exact HB.out | apply below_alloc | apply pw_below_drewN | apply below_drew1 | refine below_set ?_ GE180.out | refine below_set ?_ GE187.out) | exact HB.out)⟩
                · rw [if_neg c33] at H
                  exact absurd H (by simp)
              · rw [if_neg c32] at H
                exact absurd H (by simp)
            · rw [if_neg c31] at H
              have c31b0 : decide (x45_2 < (l0_1.length : Int)) = false := decide_eq_false c31
              clear c31
              obtain rfl := Option.some.inj H
              go_wp2
              repeat (go_quiet (fail); try go_wp2)
              go_ret
              exact ⟨by first | rfl | (simp [errW_none, errW_some] <;> rfl) | (simp [*, errW_none, errW_some] <;> rfl), by repeat (first | (with_reducible first | exact HB.out | apply below_alloc | apply pw_below_drewN | apply below_drew1 | refine below_set ?_ GE180.out) | exact HB.out)⟩

end Go.Proofs.Ytdadnapfecmmdaa.P
