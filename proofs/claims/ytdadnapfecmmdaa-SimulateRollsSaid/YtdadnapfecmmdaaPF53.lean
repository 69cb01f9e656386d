-- PRINTED by print.py (a twelfth state) out of the translation. Not trusted: Lean checks it.
import Derived.Test.YtdadnapfecmmdaaP0
import Derived.Test.YtdadnapfecmmdaaPF52
import Derived.Test.YtdadnapfecmmdaaPF51
import Derived.Test.YtdadnapfecmmdaaPF80
namespace Go.Proofs.Ytdadnapfecmmdaa.P
open Go.RowKit Go.Proofs.YtdadnapfecmmdaaW.PrintWords Go.Proofs.YtdadnapfecmmdaaW.PrintLast Go.Proofs.YtdadnapfecmmdaaW.PrintMore
attribute [local go_sem] max2_int min2_int max_two min_two max_three min_three max_four min_four   -- for this text's walks alone
set_option linter.unusedVariables false
set_option linter.unusedSimpArgs false

/-! ### simulate_Config_checkServices: function 53 -/
mutual
def simulate_Config_checkServices.l0 : Nat → List (S64) → Int → Int → Int → List (S64) → List (S91) → List (S100) → List (S61) → Int → Int → Int → Int → Int → Int → Int → Option (Int)
  | 0, _, _, _, _, _, _, _, _, _, _, _, _, _, _, _ => none
  | k + 1, x11, x12, x13, x168000, x168001, x168002, x168003, x168004, x168005, x168006, x168007, x168008, x168009, x168010, x168011 => if x13 < x12 then (if 0 ≤ x13 then (if x13 < (x11.length : Int) then ((attribute_IsName.f k ((rd_T64 x11 x13).f0)).bind fun t170 => (if t170 = true then ((simulate_Config_index.f x168000 x168001 x168002 x168003 x168004 x168005 x168006 x168007 x168008 x168009 x168010 x168011 ((rd_T64 x11 x13).f0)).bind fun t171 => (if t171 < x13 then (some 9) else ((simulate_outside.f ((rd_T64 x11 x13).f1) 1 1048576).bind fun t172 => (if t172 = true then (simulate_Config_checkServices.j1 k x11 x12 x13 true x168000 x168001 x168002 x168003 x168004 x168005 x168006 x168007 x168008 x168009 x168010 x168011 ((rd_T64 x11 x13).f0) ((rd_T64 x11 x13).f1) ((rd_T64 x11 x13).f2) ((rd_T64 x11 x13).f3) ((rd_T64 x11 x13).f4) ((rd_T64 x11 x13).f5)) else ((simulate_outside.f ((rd_T64 x11 x13).f2) 0 1048576).bind fun t173 => (if t173 = true then (simulate_Config_checkServices.j1 k x11 x12 x13 true x168000 x168001 x168002 x168003 x168004 x168005 x168006 x168007 x168008 x168009 x168010 x168011 ((rd_T64 x11 x13).f0) ((rd_T64 x11 x13).f1) ((rd_T64 x11 x13).f2) ((rd_T64 x11 x13).f3) ((rd_T64 x11 x13).f4) ((rd_T64 x11 x13).f5)) else ((simulate_outside.f ((rd_T64 x11 x13).f3) 0 1048576).bind fun t174 => (if t174 = true then (simulate_Config_checkServices.j1 k x11 x12 x13 true x168000 x168001 x168002 x168003 x168004 x168005 x168006 x168007 x168008 x168009 x168010 x168011 ((rd_T64 x11 x13).f0) ((rd_T64 x11 x13).f1) ((rd_T64 x11 x13).f2) ((rd_T64 x11 x13).f3) ((rd_T64 x11 x13).f4) ((rd_T64 x11 x13).f5)) else ((simulate_outside.f ((rd_T64 x11 x13).f4) 0 1000000).bind fun t175 => (simulate_Config_checkServices.j1 k x11 x12 x13 t175 x168000 x168001 x168002 x168003 x168004 x168005 x168006 x168007 x168008 x168009 x168010 x168011 ((rd_T64 x11 x13).f0) ((rd_T64 x11 x13).f1) ((rd_T64 x11 x13).f2) ((rd_T64 x11 x13).f3) ((rd_T64 x11 x13).f4) ((rd_T64 x11 x13).f5))))))))))) else (some 11))) else (none)) else (none)) else (simulate_Config_checkServices.l1 k x168001 (x168001.length : Int) 0 x168000 x168001 x168002 x168003 x168004 x168005 x168006 x168007 x168008 x168009 x168010 x168011)
def simulate_Config_checkServices.j1 : Nat → List (S64) → Int → Int → Bool → Int → List (S64) → List (S91) → List (S100) → List (S61) → Int → Int → Int → Int → Int → Int → Int → ByteArray → Int → Int → Int → Int → List ByteArray → Option (Int)
  | 0, _, _, _, _, _, _, _, _, _, _, _, _, _, _, _, _, _, _, _, _, _, _ => none
  | k + 1, x11, x12, x13, x30, x168000, x168001, x168002, x168003, x168004, x168005, x168006, x168007, x168008, x168009, x168010, x168011, x170000, x170001, x170002, x170003, x170004, x170005 => if x30 = true then (some 2) else (if (x170005.length : Int) > 8 then (some 6) else (simulate_Config_checkServices.l0 k x11 x12 (wrap64 (x13 + 1)) x168000 x168001 x168002 x168003 x168004 x168005 x168006 x168007 x168008 x168009 x168010 x168011))
def simulate_Config_checkServices.l1 : Nat → List (S64) → Int → Int → Int → List (S64) → List (S91) → List (S100) → List (S61) → Int → Int → Int → Int → Int → Int → Int → Option (Int)
  | 0, _, _, _, _, _, _, _, _, _, _, _, _, _, _, _ => none
  | k + 1, x56, x57, x58, x168000, x168001, x168002, x168003, x168004, x168005, x168006, x168007, x168008, x168009, x168010, x168011 => if x58 < x57 then (if 0 ≤ x58 then (if x58 < (x56.length : Int) then (simulate_Config_checkServices.l2 k x58 x56 x57 x58 ((rd_T64 x56 x58).f5) (((rd_T64 x56 x58).f5).length : Int) 0 x168000 x168001 x168002 x168003 x168004 x168005 x168006 x168007 x168008 x168009 x168010 x168011) else (none)) else (none)) else (some 0)
def simulate_Config_checkServices.l2 : Nat → Int → List (S64) → Int → Int → List ByteArray → Int → Int → Int → List (S64) → List (S91) → List (S100) → List (S61) → Int → Int → Int → Int → Int → Int → Int → Option (Int)
  | 0, _, _, _, _, _, _, _, _, _, _, _, _, _, _, _, _, _, _, _ => none
  | k + 1, x5, x56, x57, x58, x64, x65, x66, x168000, x168001, x168002, x168003, x168004, x168005, x168006, x168007, x168008, x168009, x168010, x168011 => if x66 < x65 then (if 0 ≤ x66 then (if x66 < (x64.length : Int) then ((simulate_Config_index.f x168000 x168001 x168002 x168003 x168004 x168005 x168006 x168007 x168008 x168009 x168010 x168011 (rdOf ByteArray.empty x64 x66)).bind fun t179 => (if t179 < 0 then (some 16) else (if t179 ≤ x5 then (some 8) else (simulate_Config_checkServices.l2 k x5 x56 x57 x58 x64 x65 (wrap64 (x66 + 1)) x168000 x168001 x168002 x168003 x168004 x168005 x168006 x168007 x168008 x168009 x168010 x168011)))) else (none)) else (none)) else (simulate_Config_checkServices.l1 k x56 x57 (wrap64 (x58 + 1)) x168000 x168001 x168002 x168003 x168004 x168005 x168006 x168007 x168008 x168009 x168010 x168011)
end
def simulate_Config_checkServices.f (k : Nat) (a0_0 : Int) (l0_1 : List (S64)) (l0_2 : List (S91)) (l0_3 : List (S100)) (l0_4 : List (S61)) (a0_5 : Int) (a0_6 : Int) (a0_7 : Int) (a0_8 : Int) (a0_9 : Int) (a0_10 : Int) (a0_11 : Int) : Option (Int) := simulate_Config_checkServices.l0 k l0_1 (l0_1.length : Int) 0 a0_0 l0_1 l0_2 l0_3 l0_4 a0_5 a0_6 a0_7 a0_8 a0_9 a0_10 a0_11
theorem simulate_Config_checkServices.mono_l : ∀ k, (∀ y0 y1 y2 y3 y4 y5 y6 y7 y8 y9 y10 y11 y12 y13 y14, LeO (simulate_Config_checkServices.l0 k y0 y1 y2 y3 y4 y5 y6 y7 y8 y9 y10 y11 y12 y13 y14) (simulate_Config_checkServices.l0 (k + 1) y0 y1 y2 y3 y4 y5 y6 y7 y8 y9 y10 y11 y12 y13 y14)) ∧ (∀ y0 y1 y2 y3 y4 y5 y6 y7 y8 y9 y10 y11 y12 y13 y14 y15 y16 y17 y18 y19 y20 y21, LeO (simulate_Config_checkServices.j1 k y0 y1 y2 y3 y4 y5 y6 y7 y8 y9 y10 y11 y12 y13 y14 y15 y16 y17 y18 y19 y20 y21) (simulate_Config_checkServices.j1 (k + 1) y0 y1 y2 y3 y4 y5 y6 y7 y8 y9 y10 y11 y12 y13 y14 y15 y16 y17 y18 y19 y20 y21)) ∧ (∀ y0 y1 y2 y3 y4 y5 y6 y7 y8 y9 y10 y11 y12 y13 y14, LeO (simulate_Config_checkServices.l1 k y0 y1 y2 y3 y4 y5 y6 y7 y8 y9 y10 y11 y12 y13 y14) (simulate_Config_checkServices.l1 (k + 1) y0 y1 y2 y3 y4 y5 y6 y7 y8 y9 y10 y11 y12 y13 y14)) ∧ (∀ y0 y1 y2 y3 y4 y5 y6 y7 y8 y9 y10 y11 y12 y13 y14 y15 y16 y17 y18, LeO (simulate_Config_checkServices.l2 k y0 y1 y2 y3 y4 y5 y6 y7 y8 y9 y10 y11 y12 y13 y14 y15 y16 y17 y18) (simulate_Config_checkServices.l2 (k + 1) y0 y1 y2 y3 y4 y5 y6 y7 y8 y9 y10 y11 y12 y13 y14 y15 y16 y17 y18))
  | 0 => ⟨fun _ _ _ _ _ _ _ _ _ _ _ _ _ _ _ r h => by simp [simulate_Config_checkServices.l0] at h, fun _ _ _ _ _ _ _ _ _ _ _ _ _ _ _ _ _ _ _ _ _ _ r h => by simp [simulate_Config_checkServices.j1] at h, fun _ _ _ _ _ _ _ _ _ _ _ _ _ _ _ r h => by simp [simulate_Config_checkServices.l1] at h, fun _ _ _ _ _ _ _ _ _ _ _ _ _ _ _ _ _ _ _ r h => by simp [simulate_Config_checkServices.l2] at h⟩
  | k + 1 => by
    obtain ⟨ih0, ih1, ih2, ih3⟩ := simulate_Config_checkServices.mono_l k
    refine ⟨?_, ?_, ?_, ?_⟩
    · intro y0 y1 y2 y3 y4 y5 y6 y7 y8 y9 y10 y11 y12 y13 y14
      unfold simulate_Config_checkServices.l0
      repeat' first
      | (with_reducible exact ih0 _ _ _ _ _ _ _ _ _ _ _ _ _ _ _)
      | (with_reducible exact ih1 _ _ _ _ _ _ _ _ _ _ _ _ _ _ _ _ _ _ _ _ _ _)
      | (with_reducible exact ih2 _ _ _ _ _ _ _ _ _ _ _ _ _ _ _)
      | (with_reducible exact ih3 _ _ _ _ _ _ _ _ _ _ _ _ _ _ _ _ _ _ _)
      | (with_reducible exact attribute_IsName.mono _ _)
      | (with_reducible exact LeO.refl _)
      | (with_reducible exact LeO.none _)
      | (with_reducible refine LeO.ite ?_ ?_)
      | (with_reducible refine LeO.bind ?_ (fun _ => ?_))
      | exact ih0 _ _ _ _ _ _ _ _ _ _ _ _ _ _ _
      | exact ih1 _ _ _ _ _ _ _ _ _ _ _ _ _ _ _ _ _ _ _ _ _ _
      | exact ih2 _ _ _ _ _ _ _ _ _ _ _ _ _ _ _
      | exact ih3 _ _ _ _ _ _ _ _ _ _ _ _ _ _ _ _ _ _ _
      | exact attribute_IsName.mono _ _
      | exact LeO.none _
      | refine LeO.ite ?_ ?_
      | refine LeO.bind ?_ (fun _ => ?_)
    · intro y0 y1 y2 y3 y4 y5 y6 y7 y8 y9 y10 y11 y12 y13 y14 y15 y16 y17 y18 y19 y20 y21
      unfold simulate_Config_checkServices.j1
      repeat' first
      | (with_reducible exact ih0 _ _ _ _ _ _ _ _ _ _ _ _ _ _ _)
      | (with_reducible exact ih1 _ _ _ _ _ _ _ _ _ _ _ _ _ _ _ _ _ _ _ _ _ _)
      | (with_reducible exact ih2 _ _ _ _ _ _ _ _ _ _ _ _ _ _ _)
      | (with_reducible exact ih3 _ _ _ _ _ _ _ _ _ _ _ _ _ _ _ _ _ _ _)
      | (with_reducible exact attribute_IsName.mono _ _)
      | (with_reducible exact LeO.refl _)
      | (with_reducible exact LeO.none _)
      | (with_reducible refine LeO.ite ?_ ?_)
      | (with_reducible refine LeO.bind ?_ (fun _ => ?_))
      | exact ih0 _ _ _ _ _ _ _ _ _ _ _ _ _ _ _
      | exact ih1 _ _ _ _ _ _ _ _ _ _ _ _ _ _ _ _ _ _ _ _ _ _
      | exact ih2 _ _ _ _ _ _ _ _ _ _ _ _ _ _ _
      | exact ih3 _ _ _ _ _ _ _ _ _ _ _ _ _ _ _ _ _ _ _
      | exact attribute_IsName.mono _ _
      | exact LeO.none _
      | refine LeO.ite ?_ ?_
      | refine LeO.bind ?_ (fun _ => ?_)
    · intro y0 y1 y2 y3 y4 y5 y6 y7 y8 y9 y10 y11 y12 y13 y14
      unfold simulate_Config_checkServices.l1
      repeat' first
      | (with_reducible exact ih0 _ _ _ _ _ _ _ _ _ _ _ _ _ _ _)
      | (with_reducible exact ih1 _ _ _ _ _ _ _ _ _ _ _ _ _ _ _ _ _ _ _ _ _ _)
      | (with_reducible exact ih2 _ _ _ _ _ _ _ _ _ _ _ _ _ _ _)
      | (with_reducible exact ih3 _ _ _ _ _ _ _ _ _ _ _ _ _ _ _ _ _ _ _)
      | (with_reducible exact attribute_IsName.mono _ _)
      | (with_reducible exact LeO.refl _)
      | (with_reducible exact LeO.none _)
      | (with_reducible refine LeO.ite ?_ ?_)
      | (with_reducible refine LeO.bind ?_ (fun _ => ?_))
      | exact ih0 _ _ _ _ _ _ _ _ _ _ _ _ _ _ _
      | exact ih1 _ _ _ _ _ _ _ _ _ _ _ _ _ _ _ _ _ _ _ _ _ _
      | exact ih2 _ _ _ _ _ _ _ _ _ _ _ _ _ _ _
      | exact ih3 _ _ _ _ _ _ _ _ _ _ _ _ _ _ _ _ _ _ _
      | exact attribute_IsName.mono _ _
      | exact LeO.none _
      | refine LeO.ite ?_ ?_
      | refine LeO.bind ?_ (fun _ => ?_)
    · intro y0 y1 y2 y3 y4 y5 y6 y7 y8 y9 y10 y11 y12 y13 y14 y15 y16 y17 y18
      unfold simulate_Config_checkServices.l2
      repeat' first
      | (with_reducible exact ih0 _ _ _ _ _ _ _ _ _ _ _ _ _ _ _)
      | (with_reducible exact ih1 _ _ _ _ _ _ _ _ _ _ _ _ _ _ _ _ _ _ _ _ _ _)
      | (with_reducible exact ih2 _ _ _ _ _ _ _ _ _ _ _ _ _ _ _)
      | (with_reducible exact ih3 _ _ _ _ _ _ _ _ _ _ _ _ _ _ _ _ _ _ _)
      | (with_reducible exact attribute_IsName.mono _ _)
      | (with_reducible exact LeO.refl _)
      | (with_reducible exact LeO.none _)
      | (with_reducible refine LeO.ite ?_ ?_)
      | (with_reducible refine LeO.bind ?_ (fun _ => ?_))
      | exact ih0 _ _ _ _ _ _ _ _ _ _ _ _ _ _ _
      | exact ih1 _ _ _ _ _ _ _ _ _ _ _ _ _ _ _ _ _ _ _ _ _ _
      | exact ih2 _ _ _ _ _ _ _ _ _ _ _ _ _ _ _
      | exact ih3 _ _ _ _ _ _ _ _ _ _ _ _ _ _ _ _ _ _ _
      | exact attribute_IsName.mono _ _
      | exact LeO.none _
      | refine LeO.ite ?_ ?_
      | refine LeO.bind ?_ (fun _ => ?_)
theorem simulate_Config_checkServices.mono : ∀ a0 a1 a2 a3 a4 a5 a6 a7 a8 a9 a10 a11 k, LeO (simulate_Config_checkServices.f k a0 a1 a2 a3 a4 a5 a6 a7 a8 a9 a10 a11) (simulate_Config_checkServices.f (k + 1) a0 a1 a2 a3 a4 a5 a6 a7 a8 a9 a10 a11) := by
  intro a0 a1 a2 a3 a4 a5 a6 a7 a8 a9 a10 a11 k
  obtain ⟨ih0, ih1, ih2, ih3⟩ := simulate_Config_checkServices.mono_l k
  unfold simulate_Config_checkServices.f
  repeat' first
      | (with_reducible exact ih0 _ _ _ _ _ _ _ _ _ _ _ _ _ _ _)
      | (with_reducible exact ih1 _ _ _ _ _ _ _ _ _ _ _ _ _ _ _ _ _ _ _ _ _ _)
      | (with_reducible exact ih2 _ _ _ _ _ _ _ _ _ _ _ _ _ _ _)
      | (with_reducible exact ih3 _ _ _ _ _ _ _ _ _ _ _ _ _ _ _ _ _ _ _)
      | (with_reducible exact attribute_IsName.mono _ _)
      | (with_reducible exact LeO.refl _)
      | (with_reducible exact LeO.none _)
      | (with_reducible refine LeO.ite ?_ ?_)
      | (with_reducible refine LeO.bind ?_ (fun _ => ?_))
      | exact ih0 _ _ _ _ _ _ _ _ _ _ _ _ _ _ _
      | exact ih1 _ _ _ _ _ _ _ _ _ _ _ _ _ _ _ _ _ _ _ _ _ _
      | exact ih2 _ _ _ _ _ _ _ _ _ _ _ _ _ _ _
      | exact ih3 _ _ _ _ _ _ _ _ _ _ _ _ _ _ _ _ _ _ _
      | exact attribute_IsName.mono _ _
      | exact LeO.none _
      | refine LeO.ite ?_ ?_
      | refine LeO.bind ?_ (fun _ => ?_)
set_option maxHeartbeats 8000000 in
set_option maxRecDepth 100000 in
theorem simulate_Config_checkServices.calls (k : Nat) (a0_0 : Int) (A0_1 : Option Addr) (c0_1 : Nat) (l0_1 : List (S64)) (A0_2 : Option Addr) (c0_2 : Nat) (l0_2 : List (S91)) (A0_3 : Option Addr) (c0_3 : Nat) (l0_3 : List (S100)) (A0_4 : Option Addr) (c0_4 : Nat) (l0_4 : List (S61)) (a0_5 : Int) (a0_6 : Int) (a0_7 : Int) (a0_8 : Int) (a0_9 : Int) (a0_10 : Int) (a0_11 : Int) (r : Int) (w : World) (hr0_1 : Kd.C k64 w A0_1 l0_1.length l0_1) (hc0_1 : l0_1.length ≤ c0_1) (hr0_2 : Kd.C k91 w A0_2 l0_2.length l0_2) (hc0_2 : l0_2.length ≤ c0_2) (hr0_3 : Kd.C k100 w A0_3 l0_3.length l0_3) (hc0_3 : l0_3.length ≤ c0_3) (hr0_4 : Kd.C k61 w A0_4 l0_4.length l0_4) (hc0_4 : l0_4.length ≤ c0_4) (h : simulate_Config_checkServices.f k a0_0 l0_1 l0_2 l0_3 l0_4 a0_5 a0_6 a0_7 a0_8 a0_9 a0_10 a0_11 = some r) :
    Calls Try.prog 53 #[.agg #[.int .i64 a0_0, .slice A0_1 l0_1.length c0_1, .slice A0_2 l0_2.length c0_2, .slice A0_3 l0_3.length c0_3, .slice A0_4 l0_4.length c0_4, .int .i64 a0_5, .int .i64 a0_6, .int .i64 a0_7, .int .i64 a0_8, .int .i64 a0_9, .int .i64 a0_10, .int .i64 a0_11]] w fun e w' => e = .returned (.int .i64 r) ∧ Below w.heap.size w w' := by
  have hu31 := Try.underlying31
  have hu64 := Try.underlying64
  have HR0_1 := Aside0.mk hr0_1
  have HC0_1 := Aside0.mk hc0_1
  clear hr0_1 hc0_1
  have HR0_2 := Aside0.mk hr0_2
  have HC0_2 := Aside0.mk hc0_2
  clear hr0_2 hc0_2
  have HR0_3 := Aside0.mk hr0_3
  have HC0_3 := Aside0.mk hc0_3
  clear hr0_3 hc0_3
  have HR0_4 := Aside0.mk hr0_4
  have HC0_4 := Aside0.mk hc0_4
  clear hr0_4 hc0_4
  have HB := Aside0.mk (Below.refl w.heap.size w)
  have H : (simulate_Config_checkServices.l0 k l0_1 (l0_1.length : Int) 0 a0_0 l0_1 l0_2 l0_3 l0_4 a0_5 a0_6 a0_7 a0_8 a0_9 a0_10 a0_11) = some r := h
  clear h
  have H' := Aside0.mk H
  clear H
  go_enter Try.func53, Try.ntmps53
  go_wp2_with (first | ((with_reducible refine gate_dst (N := 1) rfl ?_); refine box_event ?hg (N := 1) ?hd (cs := #[.int .i64 a0_0, .slice A0_1 l0_1.length c0_1, .slice A0_2 l0_2.length c0_2, .slice A0_3 l0_3.length c0_3, .slice A0_4 l0_4.length c0_4, .int .i64 a0_5, .int .i64 a0_6, .int .i64 a0_7, .int .i64 a0_8, .int .i64 a0_9, .int .i64 a0_10, .int .i64 a0_11]) (t := 31) ?hr ?_; (case hd => rfl); (case hg => rfl); (case hr => first | (go_simp; done) | (go_simp; rfl)); intro gb167 hg w2 hbox hb; have n0_ := Aside0.mk (below_step (by repeat (first | (with_reducible first | exact HB.out | apply below_alloc | apply pw_below_drewN | apply below_drew1) | exact HB.out)) hb); have n1_ := Aside0.mk (hbox); have n2_ := Aside0.mk ((by rw [hg]; exact (below_size (by repeat (first | (with_reducible first | exact HB.out | apply below_alloc | apply pw_below_drewN | apply below_drew1) | exact HB.out))) : w.heap.size ≤ gb167)); have n3_ := Aside0.mk ((by rw [hg]; exact (below_size (by repeat (first | (with_reducible first | exact HB.out | apply below_alloc | apply pw_below_drewN | apply below_drew1) | exact HB.out))) : w.heap.size ≤ gb167)); clear HB; have HB := n0_; have BK167 := n1_; have GW167 := n2_; have GE167 := n3_; clear n0_ n1_ n2_ n3_; clear hb hbox hg; have hcz3_0 : w2.cell? ⟨gb167, 0, none⟩ = some (.int .i64 a0_0) := (blk_cell BK167.out 0).trans rfl; have hcz3_1 : w2.cell? ⟨gb167, 1, none⟩ = some (.slice A0_1 l0_1.length c0_1) := (blk_cell BK167.out 1).trans rfl; have hcz3_2 : w2.cell? ⟨gb167, 2, none⟩ = some (.slice A0_2 l0_2.length c0_2) := (blk_cell BK167.out 2).trans rfl; have hcz3_3 : w2.cell? ⟨gb167, 3, none⟩ = some (.slice A0_3 l0_3.length c0_3) := (blk_cell BK167.out 3).trans rfl; have hcz3_4 : w2.cell? ⟨gb167, 4, none⟩ = some (.slice A0_4 l0_4.length c0_4) := (blk_cell BK167.out 4).trans rfl; have hcz3_5 : w2.cell? ⟨gb167, 5, none⟩ = some (.int .i64 a0_5) := (blk_cell BK167.out 5).trans rfl; have hcz3_6 : w2.cell? ⟨gb167, 6, none⟩ = some (.int .i64 a0_6) := (blk_cell BK167.out 6).trans rfl; have hcz3_7 : w2.cell? ⟨gb167, 7, none⟩ = some (.int .i64 a0_7) := (blk_cell BK167.out 7).trans rfl; have hcz3_8 : w2.cell? ⟨gb167, 8, none⟩ = some (.int .i64 a0_8) := (blk_cell BK167.out 8).trans rfl; have hcz3_9 : w2.cell? ⟨gb167, 9, none⟩ = some (.int .i64 a0_9) := (blk_cell BK167.out 9).trans rfl; have hcz3_10 : w2.cell? ⟨gb167, 10, none⟩ = some (.int .i64 a0_10) := (blk_cell BK167.out 10).trans rfl; have hcz3_11 : w2.cell? ⟨gb167, 11, none⟩ = some (.int .i64 a0_11) := (blk_cell BK167.out 11).trans rfl; have hfz3_0 := blk_frozen BK167.out 0; have hfz3_1 := blk_frozen BK167.out 1; have hfz3_2 := blk_frozen BK167.out 2; have hfz3_3 := blk_frozen BK167.out 3; have hfz3_4 := blk_frozen BK167.out 4; have hfz3_5 := blk_frozen BK167.out 5; have hfz3_6 := blk_frozen BK167.out 6; have hfz3_7 := blk_frozen BK167.out 7; have hfz3_8 := blk_frozen BK167.out 8; have hfz3_9 := blk_frozen BK167.out 9; have hfz3_10 := blk_frozen BK167.out 10; have hfz3_11 := blk_frozen BK167.out 11))
  go_loopg [13] k (fun kq v13 w' => ∃ (x13_1 : Int), v13 = .int .i64 x13_1 ∧ Aside0 (simulate_Config_checkServices.l0 kq l0_1 (l0_1.length : Int) x13_1 a0_0 l0_1 l0_2 l0_3 l0_4 a0_5 a0_6 a0_7 a0_8 a0_9 a0_10 a0_11 = some r) ∧ Aside0 (kq ≤ k) ∧ Aside0 (w'.heap[gb167]? = some (.cells #[.int .i64 a0_0, (.slice A0_1 l0_1.length c0_1), (.slice A0_2 l0_2.length c0_2), (.slice A0_3 l0_3.length c0_3), (.slice A0_4 l0_4.length c0_4), .int .i64 a0_5, .int .i64 a0_6, .int .i64 a0_7, .int .i64 a0_8, .int .i64 a0_9, .int .i64 a0_10, .int .i64 a0_11] 31 (0, 0))) ∧ Aside0 (Below w.heap.size w w'))
  case atStart => exact ⟨(0), (by first | rfl | (simp; done) | (simp [*]; done)), H', ⟨Nat.le_refl _⟩, ⟨by (with_reducible repeat (first | refine blk_drewN ?_ _ | refine blk_drew ?_ | refine blk_alloc ?_ _)); exact BK167.out⟩, ⟨by repeat (first | (with_reducible first | exact HB.out | apply below_alloc | apply pw_below_drewN | apply below_drew1 | refine below_set ?_ GE167.out) | exact HB.out)⟩⟩
  case round =>
    clear H'
    try clear p2
    try clear hcz3_0
    try clear hcz3_1
    try clear hcz3_10
    try clear hcz3_11
    try clear hcz3_2
    try clear hcz3_3
    try clear hcz3_4
    try clear hcz3_5
    try clear hcz3_6
    try clear hcz3_7
    try clear hcz3_8
    try clear hcz3_9
    try clear hfz3_0
    try clear hfz3_1
    try clear hfz3_10
    try clear hfz3_11
    try clear hfz3_2
    try clear hfz3_3
    try clear hfz3_4
    try clear hfz3_5
    try clear hfz3_6
    try clear hfz3_7
    try clear hfz3_8
    try clear hfz3_9
    obtain ⟨x13_1, rfl, HA, HK1, BK167, HB⟩ := hrel
    cases gk with
    | zero => exact absurd HA.out (by simp [simulate_Config_checkServices.l0])
    | succ k1 =>
      have H := HA.out
      clear HA
      simp only [simulate_Config_checkServices.l0] at H
      by_cases c4 : x13_1 < (l0_1.length : Int)
      · rw [if_pos c4] at H
        have c4b0 : decide (x13_1 < (l0_1.length : Int)) = true := decide_eq_true c4
        clear c4
        by_cases c5 : 0 ≤ x13_1
        · rw [if_pos c5] at H
          have c5b0 : decide (0 ≤ x13_1) = true := decide_eq_true c5
          clear c5
          by_cases c6 : x13_1 < (l0_1.length : Int)
          · rw [if_pos c6] at H
            have c6b0 : decide (x13_1 < (l0_1.length : Int)) = true := decide_eq_true c6
            clear c6
            replace H := Option.bind_eq_some_iff.mp H
            obtain ⟨t170, A70, H⟩ := H
            replace H : (if t170 = true then ((simulate_Config_index.f a0_0 l0_1 l0_2 l0_3 l0_4 a0_5 a0_6 a0_7 a0_8 a0_9 a0_10 a0_11 ((rd_T64 l0_1 x13_1).f0)).bind fun t171 => (if t171 < x13_1 then (some 9) else ((simulate_outside.f ((rd_T64 l0_1 x13_1).f1) 1 1048576).bind fun t172 => (if t172 = true then (simulate_Config_checkServices.j1 k1 l0_1 (l0_1.length : Int) x13_1 true a0_0 l0_1 l0_2 l0_3 l0_4 a0_5 a0_6 a0_7 a0_8 a0_9 a0_10 a0_11 ((rd_T64 l0_1 x13_1).f0) ((rd_T64 l0_1 x13_1).f1) ((rd_T64 l0_1 x13_1).f2) ((rd_T64 l0_1 x13_1).f3) ((rd_T64 l0_1 x13_1).f4) ((rd_T64 l0_1 x13_1).f5)) else ((simulate_outside.f ((rd_T64 l0_1 x13_1).f2) 0 1048576).bind fun t173 => (if t173 = true then (simulate_Config_checkServices.j1 k1 l0_1 (l0_1.length : Int) x13_1 true a0_0 l0_1 l0_2 l0_3 l0_4 a0_5 a0_6 a0_7 a0_8 a0_9 a0_10 a0_11 ((rd_T64 l0_1 x13_1).f0) ((rd_T64 l0_1 x13_1).f1) ((rd_T64 l0_1 x13_1).f2) ((rd_T64 l0_1 x13_1).f3) ((rd_T64 l0_1 x13_1).f4) ((rd_T64 l0_1 x13_1).f5)) else ((simulate_outside.f ((rd_T64 l0_1 x13_1).f3) 0 1048576).bind fun t174 => (if t174 = true then (simulate_Config_checkServices.j1 k1 l0_1 (l0_1.length : Int) x13_1 true a0_0 l0_1 l0_2 l0_3 l0_4 a0_5 a0_6 a0_7 a0_8 a0_9 a0_10 a0_11 ((rd_T64 l0_1 x13_1).f0) ((rd_T64 l0_1 x13_1).f1) ((rd_T64 l0_1 x13_1).f2) ((rd_T64 l0_1 x13_1).f3) ((rd_T64 l0_1 x13_1).f4) ((rd_T64 l0_1 x13_1).f5)) else ((simulate_outside.f ((rd_T64 l0_1 x13_1).f4) 0 1000000).bind fun t175 => (simulate_Config_checkServices.j1 k1 l0_1 (l0_1.length : Int) x13_1 t175 a0_0 l0_1 l0_2 l0_3 l0_4 a0_5 a0_6 a0_7 a0_8 a0_9 a0_10 a0_11 ((rd_T64 l0_1 x13_1).f0) ((rd_T64 l0_1 x13_1).f1) ((rd_T64 l0_1 x13_1).f2) ((rd_T64 l0_1 x13_1).f3) ((rd_T64 l0_1 x13_1).f4) ((rd_T64 l0_1 x13_1).f5))))))))))) else (some 11)) = some r := H
            have A7 := Aside0.mk A70
            clear A70
            by_cases c8 : t170 = true
            · subst c8
              have H1 : ((simulate_Config_index.f a0_0 l0_1 l0_2 l0_3 l0_4 a0_5 a0_6 a0_7 a0_8 a0_9 a0_10 a0_11 ((rd_T64 l0_1 x13_1).f0)).bind fun t171 => (if t171 < x13_1 then (some 9) else ((simulate_outside.f ((rd_T64 l0_1 x13_1).f1) 1 1048576).bind fun t172 => (if t172 = true then (simulate_Config_checkServices.j1 k1 l0_1 (l0_1.length : Int) x13_1 true a0_0 l0_1 l0_2 l0_3 l0_4 a0_5 a0_6 a0_7 a0_8 a0_9 a0_10 a0_11 ((rd_T64 l0_1 x13_1).f0) ((rd_T64 l0_1 x13_1).f1) ((rd_T64 l0_1 x13_1).f2) ((rd_T64 l0_1 x13_1).f3) ((rd_T64 l0_1 x13_1).f4) ((rd_T64 l0_1 x13_1).f5)) else ((simulate_outside.f ((rd_T64 l0_1 x13_1).f2) 0 1048576).bind fun t173 => (if t173 = true then (simulate_Config_checkServices.j1 k1 l0_1 (l0_1.length : Int) x13_1 true a0_0 l0_1 l0_2 l0_3 l0_4 a0_5 a0_6 a0_7 a0_8 a0_9 a0_10 a0_11 ((rd_T64 l0_1 x13_1).f0) ((rd_T64 l0_1 x13_1).f1) ((rd_T64 l0_1 x13_1).f2) ((rd_T64 l0_1 x13_1).f3) ((rd_T64 l0_1 x13_1).f4) ((rd_T64 l0_1 x13_1).f5)) else ((simulate_outside.f ((rd_T64 l0_1 x13_1).f3) 0 1048576).bind fun t174 => (if t174 = true then (simulate_Config_checkServices.j1 k1 l0_1 (l0_1.length : Int) x13_1 true a0_0 l0_1 l0_2 l0_3 l0_4 a0_5 a0_6 a0_7 a0_8 a0_9 a0_10 a0_11 ((rd_T64 l0_1 x13_1).f0) ((rd_T64 l0_1 x13_1).f1) ((rd_T64 l0_1 x13_1).f2) ((rd_T64 l0_1 x13_1).f3) ((rd_T64 l0_1 x13_1).f4) ((rd_T64 l0_1 x13_1).f5)) else ((simulate_outside.f ((rd_T64 l0_1 x13_1).f4) 0 1000000).bind fun t175 => (simulate_Config_checkServices.j1 k1 l0_1 (l0_1.length : Int) x13_1 t175 a0_0 l0_1 l0_2 l0_3 l0_4 a0_5 a0_6 a0_7 a0_8 a0_9 a0_10 a0_11 ((rd_T64 l0_1 x13_1).f0) ((rd_T64 l0_1 x13_1).f1) ((rd_T64 l0_1 x13_1).f2) ((rd_T64 l0_1 x13_1).f3) ((rd_T64 l0_1 x13_1).f4) ((rd_T64 l0_1 x13_1).f5))))))))))) = some r := by rw [if_pos rfl] at H; exact H
              clear H
              have H := H1
              clear H1
              replace H := Option.bind_eq_some_iff.mp H
              obtain ⟨t171, A90, H⟩ := H
              replace H : (if t171 < x13_1 then (some 9) else ((simulate_outside.f ((rd_T64 l0_1 x13_1).f1) 1 1048576).bind fun t172 => (if t172 = true then (simulate_Config_checkServices.j1 k1 l0_1 (l0_1.length : Int) x13_1 true a0_0 l0_1 l0_2 l0_3 l0_4 a0_5 a0_6 a0_7 a0_8 a0_9 a0_10 a0_11 ((rd_T64 l0_1 x13_1).f0) ((rd_T64 l0_1 x13_1).f1) ((rd_T64 l0_1 x13_1).f2) ((rd_T64 l0_1 x13_1).f3) ((rd_T64 l0_1 x13_1).f4) ((rd_T64 l0_1 x13_1).f5)) else ((simulate_outside.f ((rd_T64 l0_1 x13_1).f2) 0 1048576).bind fun t173 => (if t173 = true then (simulate_Config_checkServices.j1 k1 l0_1 (l0_1.length : Int) x13_1 true a0_0 l0_1 l0_2 l0_3 l0_4 a0_5 a0_6 a0_7 a0_8 a0_9 a0_10 a0_11 ((rd_T64 l0_1 x13_1).f0) ((rd_T64 l0_1 x13_1).f1) ((rd_T64 l0_1 x13_1).f2) ((rd_T64 l0_1 x13_1).f3) ((rd_T64 l0_1 x13_1).f4) ((rd_T64 l0_1 x13_1).f5)) else ((simulate_outside.f ((rd_T64 l0_1 x13_1).f3) 0 1048576).bind fun t174 => (if t174 = true then (simulate_Config_checkServices.j1 k1 l0_1 (l0_1.length : Int) x13_1 true a0_0 l0_1 l0_2 l0_3 l0_4 a0_5 a0_6 a0_7 a0_8 a0_9 a0_10 a0_11 ((rd_T64 l0_1 x13_1).f0) ((rd_T64 l0_1 x13_1).f1) ((rd_T64 l0_1 x13_1).f2) ((rd_T64 l0_1 x13_1).f3) ((rd_T64 l0_1 x13_1).f4) ((rd_T64 l0_1 x13_1).f5)) else ((simulate_outside.f ((rd_T64 l0_1 x13_1).f4) 0 1000000).bind fun t175 => (simulate_Config_checkServices.j1 k1 l0_1 (l0_1.length : Int) x13_1 t175 a0_0 l0_1 l0_2 l0_3 l0_4 a0_5 a0_6 a0_7 a0_8 a0_9 a0_10 a0_11 ((rd_T64 l0_1 x13_1).f0) ((rd_T64 l0_1 x13_1).f1) ((rd_T64 l0_1 x13_1).f2) ((rd_T64 l0_1 x13_1).f3) ((rd_T64 l0_1 x13_1).f4) ((rd_T64 l0_1 x13_1).f5)))))))))) = some r := H
              have A9 := Aside0.mk A90
              clear A90
              by_cases c10 : t171 < x13_1
              · rw [if_pos c10] at H
                have c10b0 : decide (t171 < x13_1) = true := decide_eq_true c10
                clear c10
                obtain rfl := Option.some.inj H
                have p168 : 0 ≤ (x13_1 : Int) := of_decide_eq_true (by first | (with_reducible assumption) | assumption)
                have q168 : x13_1 < (l0_1.length : Int) := of_decide_eq_true (by first | (with_reducible assumption) | assumption)
                obtain ⟨ad168, A168_5, c168_5, e168, hx168_0, hx168_1, hx168_2, hx168_3, hx168_4, hx168_5, hl168_5, hi168_5⟩ := at_T64 HR0_1.out x13_1 p168 q168
                cases e168
                replace hx168_0 := (HB.out.cell (World.block_lt_of_cell? w _ hx168_0)).trans hx168_0
                replace hx168_1 := (HB.out.cell (World.block_lt_of_cell? w _ hx168_1)).trans hx168_1
                replace hx168_2 := (HB.out.cell (World.block_lt_of_cell? w _ hx168_2)).trans hx168_2
                replace hx168_3 := (HB.out.cell (World.block_lt_of_cell? w _ hx168_3)).trans hx168_3
                replace hx168_4 := (HB.out.cell (World.block_lt_of_cell? w _ hx168_4)).trans hx168_4
                replace hx168_5 := (HB.out.cell (World.block_lt_of_cell? w _ hx168_5)).trans hx168_5
                have HR168_5 := Aside0.mk hi168_5
                have HC168_5 := Aside0.mk hl168_5
                clear hi168_5 hl168_5
                replace p168 := eq_true p168
                replace q168 := eq_true q168
                go_wp2_with (first | ((with_reducible refine gate_dst (N := 4) rfl ?_); refine box_event ?hg (N := 4) ?hd (cs := #[.string (⟨#[]⟩ : ByteArray), .int .i64 0, .int .i64 0, .int .i64 0, .int .i64 0, .slice none 0 0]) (t := 64) ?hr ?_; (case hd => rfl); (case hg => rfl); (case hr => first | (go_simp; done) | (go_simp; rfl)); intro gb169 hg w11 hbox hb; have n0_ := Aside0.mk (blk_below (g := gb167) (o := .cells #[.int .i64 a0_0, .slice (some ad168) l0_1.length c0_1, .slice A0_2 l0_2.length c0_2, .slice A0_3 l0_3.length c0_3, .slice A0_4 l0_4.length c0_4, .int .i64 a0_5, .int .i64 a0_6, .int .i64 a0_7, .int .i64 a0_8, .int .i64 a0_9, .int .i64 a0_10, .int .i64 a0_11] 31 (0, 0)) (by (with_reducible repeat (first | refine blk_drewN ?_ _ | refine blk_drew ?_ | refine blk_alloc ?_ _)); exact BK167.out) hb); have n1_ := Aside0.mk (below_step (by repeat (first | (with_reducible first | exact HB.out | apply below_alloc | apply pw_below_drewN | apply below_drew1 | refine below_set ?_ GE167.out) | exact HB.out)) hb); have n2_ := Aside0.mk (hbox); have n3_ := Aside0.mk ((by rw [hg]; exact (below_size (by repeat (first | (with_reducible first | exact HB.out | apply below_alloc | apply pw_below_drewN | apply below_drew1 | refine below_set ?_ GE167.out) | exact HB.out))) : w.heap.size ≤ gb169)); have n4_ := Aside0.mk ((by rw [hg]; exact (below_size (by repeat (first | (with_reducible first | exact HB.out | apply below_alloc | apply pw_below_drewN | apply below_drew1 | refine below_set ?_ GE167.out) | exact HB.out))) : w.heap.size ≤ gb169)); have n5_ := Aside0.mk ((by rw [hg]; exact Nat.ne_of_lt (blk_lt (g := gb167) (o := .cells #[.int .i64 a0_0, .slice (some ad168) l0_1.length c0_1, .slice A0_2 l0_2.length c0_2, .slice A0_3 l0_3.length c0_3, .slice A0_4 l0_4.length c0_4, .int .i64 a0_5, .int .i64 a0_6, .int .i64 a0_7, .int .i64 a0_8, .int .i64 a0_9, .int .i64 a0_10, .int .i64 a0_11] 31 (0, 0)) (by (with_reducible repeat (first | refine blk_drewN ?_ _ | refine blk_drew ?_ | refine blk_alloc ?_ _)); exact BK167.out)) : gb167 ≠ gb169)); have n6_ := Aside0.mk ((by rw [hg]; exact Nat.ne_of_gt (blk_lt (g := gb167) (o := .cells #[.int .i64 a0_0, .slice (some ad168) l0_1.length c0_1, .slice A0_2 l0_2.length c0_2, .slice A0_3 l0_3.length c0_3, .slice A0_4 l0_4.length c0_4, .int .i64 a0_5, .int .i64 a0_6, .int .i64 a0_7, .int .i64 a0_8, .int .i64 a0_9, .int .i64 a0_10, .int .i64 a0_11] 31 (0, 0)) (by (with_reducible repeat (first | refine blk_drewN ?_ _ | refine blk_drew ?_ | refine blk_alloc ?_ _)); exact BK167.out)) : gb169 ≠ gb167)); clear BK167; clear HB; have BK167 := n0_; have HB := n1_; have BK169 := n2_; have GW169 := n3_; have GE169 := n4_; have NB167_169 := n5_; have NB169_167 := n6_; clear n0_ n1_ n2_ n3_ n4_ n5_ n6_; clear hb hbox hg; have hnb12 := NB169_167.out; have hnc12 := NB167_169.out; have hcz13_0 : w11.cell? ⟨gb169, 0, none⟩ = some (.string (⟨#[]⟩ : ByteArray)) := (blk_cell BK169.out 0).trans rfl; have hcz13_1 : w11.cell? ⟨gb169, 1, none⟩ = some (.int .i64 0) := (blk_cell BK169.out 1).trans rfl; have hcz13_2 : w11.cell? ⟨gb169, 2, none⟩ = some (.int .i64 0) := (blk_cell BK169.out 2).trans rfl; have hcz13_3 : w11.cell? ⟨gb169, 3, none⟩ = some (.int .i64 0) := (blk_cell BK169.out 3).trans rfl; have hcz13_4 : w11.cell? ⟨gb169, 4, none⟩ = some (.int .i64 0) := (blk_cell BK169.out 4).trans rfl; have hcz13_5 : w11.cell? ⟨gb169, 5, none⟩ = some (.slice none 0 0) := (blk_cell BK169.out 5).trans rfl; have hfz13_0 := blk_frozen BK169.out 0; have hfz13_1 := blk_frozen BK169.out 1; have hfz13_2 := blk_frozen BK169.out 2; have hfz13_3 := blk_frozen BK169.out 3; have hfz13_4 := blk_frozen BK169.out 4; have hfz13_5 := blk_frozen BK169.out 5) | ((with_reducible refine gate_callee (f := 51) rfl ?_); refine goesL_ (some 21) rfl rfl Try.func51 (by kernel_rfl) rfl #[.string ((rd_T64 l0_1 x13_1).f0)] rfl (by (try simp only [List.map_toArray, List.map_cons, List.map_nil]); first | done | rfl | (simp only [List.length_drop, List.length_take]; rfl)) ?_; (with_reducible refine (attribute_IsName.calls k1 ((rd_T64 l0_1 x13_1).f0) true _ A7.out).mono ?_); rintro e w' ⟨rfl, ⟨nd, rfl⟩⟩; refine ⟨_, rfl, ?_⟩; have hcz14_0 : w11.cell? ⟨gb167, 0, none⟩ = some (.int .i64 a0_0) := (blk_cell BK167.out 0).trans rfl; have hcz14_1 : w11.cell? ⟨gb167, 1, none⟩ = some (.slice (some ad168) l0_1.length c0_1) := (blk_cell BK167.out 1).trans rfl; have hcz14_2 : w11.cell? ⟨gb167, 2, none⟩ = some (.slice A0_2 l0_2.length c0_2) := (blk_cell BK167.out 2).trans rfl; have hcz14_3 : w11.cell? ⟨gb167, 3, none⟩ = some (.slice A0_3 l0_3.length c0_3) := (blk_cell BK167.out 3).trans rfl; have hcz14_4 : w11.cell? ⟨gb167, 4, none⟩ = some (.slice A0_4 l0_4.length c0_4) := (blk_cell BK167.out 4).trans rfl; have hcz14_5 : w11.cell? ⟨gb167, 5, none⟩ = some (.int .i64 a0_5) := (blk_cell BK167.out 5).trans rfl; have hcz14_6 : w11.cell? ⟨gb167, 6, none⟩ = some (.int .i64 a0_6) := (blk_cell BK167.out 6).trans rfl; have hcz14_7 : w11.cell? ⟨gb167, 7, none⟩ = some (.int .i64 a0_7) := (blk_cell BK167.out 7).trans rfl; have hcz14_8 : w11.cell? ⟨gb167, 8, none⟩ = some (.int .i64 a0_8) := (blk_cell BK167.out 8).trans rfl; have hcz14_9 : w11.cell? ⟨gb167, 9, none⟩ = some (.int .i64 a0_9) := (blk_cell BK167.out 9).trans rfl; have hcz14_10 : w11.cell? ⟨gb167, 10, none⟩ = some (.int .i64 a0_10) := (blk_cell BK167.out 10).trans rfl; have hcz14_11 : w11.cell? ⟨gb167, 11, none⟩ = some (.int .i64 a0_11) := (blk_cell BK167.out 11).trans rfl; have hfz14_0 := blk_frozen BK167.out 0; have hfz14_1 := blk_frozen BK167.out 1; have hfz14_2 := blk_frozen BK167.out 2; have hfz14_3 := blk_frozen BK167.out 3; have hfz14_4 := blk_frozen BK167.out 4; have hfz14_5 := blk_frozen BK167.out 5; have hfz14_6 := blk_frozen BK167.out 6; have hfz14_7 := blk_frozen BK167.out 7; have hfz14_8 := blk_frozen BK167.out 8; have hfz14_9 := blk_frozen BK167.out 9; have hfz14_10 := blk_frozen BK167.out 10; have hfz14_11 := blk_frozen BK167.out 11) | ((with_reducible refine gate_callee (f := 80) rfl ?_); refine goesL_ (some 27) rfl rfl Try.func80 (by kernel_rfl) rfl #[.agg #[.int .i64 a0_0, .slice (some ad168) l0_1.length c0_1, .slice A0_2 l0_2.length c0_2, .slice A0_3 l0_3.length c0_3, .slice A0_4 l0_4.length c0_4, .int .i64 a0_5, .int .i64 a0_6, .int .i64 a0_7, .int .i64 a0_8, .int .i64 a0_9, .int .i64 a0_10, .int .i64 a0_11], .string ((rd_T64 l0_1 x13_1).f0)] rfl (by (try simp only [List.map_toArray, List.map_cons, List.map_nil]); first | done | rfl | (simp only [List.length_drop, List.length_take]; rfl)) ?_; (with_reducible refine (simulate_Config_index.calls a0_0 _ _ l0_1 _ _ l0_2 _ _ l0_3 _ _ l0_4 a0_5 a0_6 a0_7 a0_8 a0_9 a0_10 a0_11 ((rd_T64 l0_1 x13_1).f0) t171 _ ?side1 ?side2 ?side3 ?side4 ?side5 ?side6 ?side7 ?side8 A9.out).mono ?_); (case side1 => exact Kd.C_below HR0_1.out (by repeat (first | (with_reducible first | exact HB.out | apply below_alloc | apply pw_below_drewN | apply below_drew1 | refine below_set ?_ GE167.out | refine below_set ?_ GE169.out) | exact HB.out))); (case side2 => exact HC0_1.out); (case side3 => exact Kd.C_below HR0_2.out (by repeat (first | (with_reducible first | exact HB.out | apply below_alloc | apply pw_below_drewN | apply below_drew1 | refine below_set ?_ GE167.out | refine below_set ?_ GE169.out) | exact HB.out))); (case side4 => exact HC0_2.out); (case side5 => exact Kd.C_below HR0_3.out (by repeat (first | (with_reducible first | exact HB.out | apply below_alloc | apply pw_below_drewN | apply below_drew1 | refine below_set ?_ GE167.out | refine below_set ?_ GE169.out) | exact HB.out))); (case side6 => exact HC0_3.out); (case side7 => exact Kd.C_below HR0_4.out (by repeat (first | (with_reducible first | exact HB.out | apply below_alloc | apply pw_below_drewN | apply below_drew1 | refine below_set ?_ GE167.out | refine below_set ?_ GE169.out) | exact HB.out))); (case side8 => exact HC0_4.out); rintro e w15 ⟨rfl, hb⟩; refine ⟨_, rfl, ?_⟩; have n0_ := Aside0.mk (blk_below (g := gb167) (o := .cells #[.int .i64 a0_0, .slice (some ad168) l0_1.length c0_1, .slice A0_2 l0_2.length c0_2, .slice A0_3 l0_3.length c0_3, .slice A0_4 l0_4.length c0_4, .int .i64 a0_5, .int .i64 a0_6, .int .i64 a0_7, .int .i64 a0_8, .int .i64 a0_9, .int .i64 a0_10, .int .i64 a0_11] 31 (0, 0)) (by (with_reducible repeat (first | refine blk_drewN ?_ _ | refine blk_drew ?_ | refine blk_alloc ?_ _)); refine blk_far ?_ NB167_169.out _; (with_reducible repeat (first | refine blk_drewN ?_ _ | refine blk_drew ?_ | refine blk_alloc ?_ _)); refine blk_far ?_ NB167_169.out _; (with_reducible repeat (first | refine blk_drewN ?_ _ | refine blk_drew ?_ | refine blk_alloc ?_ _)); refine blk_far ?_ NB167_169.out _; (with_reducible repeat (first | refine blk_drewN ?_ _ | refine blk_drew ?_ | refine blk_alloc ?_ _)); refine blk_far ?_ NB167_169.out _; (with_reducible repeat (first | refine blk_drewN ?_ _ | refine blk_drew ?_ | refine blk_alloc ?_ _)); refine blk_far ?_ NB167_169.out _; (with_reducible repeat (first | refine blk_drewN ?_ _ | refine blk_drew ?_ | refine blk_alloc ?_ _)); refine blk_far ?_ NB167_169.out _; (with_reducible repeat (first | refine blk_drewN ?_ _ | refine blk_drew ?_ | refine blk_alloc ?_ _)); exact BK167.out) hb); have n1_ := Aside0.mk (blk_below (g := gb169) (o := .cells #[.string ((rd_T64 l0_1 x13_1).f0), .int .i64 ((rd_T64 l0_1 x13_1).f1), .int .i64 ((rd_T64 l0_1 x13_1).f2), .int .i64 ((rd_T64 l0_1 x13_1).f3), .int .i64 ((rd_T64 l0_1 x13_1).f4), .slice A168_5 ((rd_T64 l0_1 x13_1).f5).length c168_5] 64 (0, 0)) (by (with_reducible repeat (first | refine blk_drewN ?_ _ | refine blk_drew ?_ | refine blk_alloc ?_ _)); refine blk_put (cs := #[.string ((rd_T64 l0_1 x13_1).f0), .int .i64 ((rd_T64 l0_1 x13_1).f1), .int .i64 ((rd_T64 l0_1 x13_1).f2), .int .i64 ((rd_T64 l0_1 x13_1).f3), .int .i64 ((rd_T64 l0_1 x13_1).f4), .slice none 0 0]) ?_ 5 _ rfl; (with_reducible repeat (first | refine blk_drewN ?_ _ | refine blk_drew ?_ | refine blk_alloc ?_ _)); refine blk_put (cs := #[.string ((rd_T64 l0_1 x13_1).f0), .int .i64 ((rd_T64 l0_1 x13_1).f1), .int .i64 ((rd_T64 l0_1 x13_1).f2), .int .i64 ((rd_T64 l0_1 x13_1).f3), .int .i64 0, .slice none 0 0]) ?_ 4 _ rfl; (with_reducible repeat (first | refine blk_drewN ?_ _ | refine blk_drew ?_ | refine blk_alloc ?_ _)); refine blk_put (cs := #[.string ((rd_T64 l0_1 x13_1).f0), .int .i64 ((rd_T64 l0_1 x13_1).f1), .int .i64 ((rd_T64 l0_1 x13_1).f2), .int .i64 0, .int .i64 0, .slice none 0 0]) ?_ 3 _ rfl; (with_reducible repeat (first | refine blk_drewN ?_ _ | refine blk_drew ?_ | refine blk_alloc ?_ _)); refine blk_put (cs := #[.string ((rd_T64 l0_1 x13_1).f0), .int .i64 ((rd_T64 l0_1 x13_1).f1), .int .i64 0, .int .i64 0, .int .i64 0, .slice none 0 0]) ?_ 2 _ rfl; (with_reducible repeat (first | refine blk_drewN ?_ _ | refine blk_drew ?_ | refine blk_alloc ?_ _)); refine blk_put (cs := #[.string ((rd_T64 l0_1 x13_1).f0), .int .i64 0, .int .i64 0, .int .i64 0, .int .i64 0, .slice none 0 0]) ?_ 1 _ rfl; (with_reducible repeat (first | refine blk_drewN ?_ _ | refine blk_drew ?_ | refine blk_alloc ?_ _)); refine blk_put (cs := #[.string (⟨#[]⟩ : ByteArray), .int .i64 0, .int .i64 0, .int .i64 0, .int .i64 0, .slice none 0 0]) ?_ 0 _ rfl; (with_reducible repeat (first | refine blk_drewN ?_ _ | refine blk_drew ?_ | refine blk_alloc ?_ _)); exact BK169.out) hb); have n2_ := Aside0.mk (below_step (by repeat (first | (with_reducible first | exact HB.out | apply below_alloc | apply pw_below_drewN | apply below_drew1 | refine below_set ?_ GE167.out | refine below_set ?_ GE169.out) | exact HB.out)) hb); clear BK167; clear BK169; clear HB; have BK167 := n0_; have BK169 := n1_; have HB := n2_; clear n0_ n1_ n2_; (try clear hb); (try clear hb2); (try clear hk); (try clear hi)))
                go_ret
                exact ⟨by first | rfl | (simp [errW_none, errW_some] <;> rfl) | (simp [*, errW_none, errW_some] <;> rfl), by repeat (first | (with_reducible first | exact HB.out | apply below_alloc | apply pw_below_drewN | apply below_drew1 | refine below_set ?_ GE167.out | refine below_set ?_ GE169.out) | exact HB.out)⟩
              · rw [if_neg c10] at H
                have c10b0 : decide (t171 < x13_1) = false := decide_eq_false c10
                clear c10
                have HC16 := Aside0.mk H
                clear H
                have p168 : 0 ≤ (x13_1 : Int) := of_decide_eq_true (by first | (with_reducible assumption) | assumption)
                have q168 : x13_1 < (l0_1.length : Int) := of_decide_eq_true (by first | (with_reducible assumption) | assumption)
                obtain ⟨ad168, A168_5, c168_5, e168, hx168_0, hx168_1, hx168_2, hx168_3, hx168_4, hx168_5, hl168_5, hi168_5⟩ := at_T64 HR0_1.out x13_1 p168 q168
                cases e168
                replace hx168_0 := (HB.out.cell (World.block_lt_of_cell? w _ hx168_0)).trans hx168_0
                replace hx168_1 := (HB.out.cell (World.block_lt_of_cell? w _ hx168_1)).trans hx168_1
                replace hx168_2 := (HB.out.cell (World.block_lt_of_cell? w _ hx168_2)).trans hx168_2
                replace hx168_3 := (HB.out.cell (World.block_lt_of_cell? w _ hx168_3)).trans hx168_3
                replace hx168_4 := (HB.out.cell (World.block_lt_of_cell? w _ hx168_4)).trans hx168_4
                replace hx168_5 := (HB.out.cell (World.block_lt_of_cell? w _ hx168_5)).trans hx168_5
                have HR168_5 := Aside0.mk hi168_5
                have HC168_5 := Aside0.mk hl168_5
                clear hi168_5 hl168_5
                replace p168 := eq_true p168
                replace q168 := eq_true q168
                go_upto_region 8 with (first | ((with_reducible refine gate_dst (N := 4) rfl ?_); refine box_event ?hg (N := 4) ?hd (cs := #[.string (⟨#[]⟩ : ByteArray), .int .i64 0, .int .i64 0, .int .i64 0, .int .i64 0, .slice none 0 0]) (t := 64) ?hr ?_; (case hd => rfl); (case hg => rfl); (case hr => first | (go_simp; done) | (go_simp; rfl)); intro gb169 hg w17 hbox hb; have n0_ := Aside0.mk (blk_below (g := gb167) (o := .cells #[.int .i64 a0_0, .slice (some ad168) l0_1.length c0_1, .slice A0_2 l0_2.length c0_2, .slice A0_3 l0_3.length c0_3, .slice A0_4 l0_4.length c0_4, .int .i64 a0_5, .int .i64 a0_6, .int .i64 a0_7, .int .i64 a0_8, .int .i64 a0_9, .int .i64 a0_10, .int .i64 a0_11] 31 (0, 0)) (by (with_reducible repeat (first | refine blk_drewN ?_ _ | refine blk_drew ?_ | refine blk_alloc ?_ _)); exact BK167.out) hb); have n1_ := Aside0.mk (below_step (by repeat (first | (with_reducible first | exact HB.out | apply below_alloc | apply pw_below_drewN | apply below_drew1 | refine below_set ?_ GE167.out) | exact HB.out)) hb); have n2_ := Aside0.mk (hbox); have n3_ := Aside0.mk ((by rw [hg]; exact (below_size (by repeat (first | (with_reducible first | exact HB.out | apply below_alloc | apply pw_below_drewN | apply below_drew1 | refine below_set ?_ GE167.out) | exact HB.out))) : w.heap.size ≤ gb169)); have n4_ := Aside0.mk ((by rw [hg]; exact (below_size (by repeat (first | (with_reducible first | exact HB.out | apply below_alloc | apply pw_below_drewN | apply below_drew1 | refine below_set ?_ GE167.out) | exact HB.out))) : w.heap.size ≤ gb169)); have n5_ := Aside0.mk ((by rw [hg]; exact Nat.ne_of_lt (blk_lt (g := gb167) (o := .cells #[.int .i64 a0_0, .slice (some ad168) l0_1.length c0_1, .slice A0_2 l0_2.length c0_2, .slice A0_3 l0_3.length c0_3, .slice A0_4 l0_4.length c0_4, .int .i64 a0_5, .int .i64 a0_6, .int .i64 a0_7, .int .i64 a0_8, .int .i64 a0_9, .int .i64 a0_10, .int .i64 a0_11] 31 (0, 0)) (by (with_reducible repeat (first | refine blk_drewN ?_ _ | refine blk_drew ?_ | refine blk_alloc ?_ _)); exact BK167.out)) : gb167 ≠ gb169)); have n6_ := Aside0.mk ((by rw [hg]; exact Nat.ne_of_gt (blk_lt (g := gb167) (o := .cells #[.int .i64 a0_0, .slice (some ad168) l0_1.length c0_1, .slice A0_2 l0_2.length c0_2, .slice A0_3 l0_3.length c0_3, .slice A0_4 l0_4.length c0_4, .int .i64 a0_5, .int .i64 a0_6, .int .i64 a0_7, .int .i64 a0_8, .int .i64 a0_9, .int .i64 a0_10, .int .i64 a0_11] 31 (0, 0)) (by (with_reducible repeat (first | refine blk_drewN ?_ _ | refine blk_drew ?_ | refine blk_alloc ?_ _)); exact BK167.out)) : gb169 ≠ gb167)); clear BK167; clear HB; have BK167 := n0_; have HB := n1_; have BK169 := n2_; have GW169 := n3_; have GE169 := n4_; have NB167_169 := n5_; have NB169_167 := n6_; clear n0_ n1_ n2_ n3_ n4_ n5_ n6_; clear hb hbox hg; have hnb18 := NB169_167.out; have hnc18 := NB167_169.out; have hcz19_0 : w17.cell? ⟨gb169, 0, none⟩ = some (.string (⟨#[]⟩ : ByteArray)) := (blk_cell BK169.out 0).trans rfl; have hcz19_1 : w17.cell? ⟨gb169, 1, none⟩ = some (.int .i64 0) := (blk_cell BK169.out 1).trans rfl; have hcz19_2 : w17.cell? ⟨gb169, 2, none⟩ = some (.int .i64 0) := (blk_cell BK169.out 2).trans rfl; have hcz19_3 : w17.cell? ⟨gb169, 3, none⟩ = some (.int .i64 0) := (blk_cell BK169.out 3).trans rfl; have hcz19_4 : w17.cell? ⟨gb169, 4, none⟩ = some (.int .i64 0) := (blk_cell BK169.out 4).trans rfl; have hcz19_5 : w17.cell? ⟨gb169, 5, none⟩ = some (.slice none 0 0) := (blk_cell BK169.out 5).trans rfl; have hfz19_0 := blk_frozen BK169.out 0; have hfz19_1 := blk_frozen BK169.out 1; have hfz19_2 := blk_frozen BK169.out 2; have hfz19_3 := blk_frozen BK169.out 3; have hfz19_4 := blk_frozen BK169.out 4; have hfz19_5 := blk_frozen BK169.out 5) | ((with_reducible refine gate_callee (f := 51) rfl ?_); refine goesL_ (some 21) rfl rfl Try.func51 (by kernel_rfl) rfl #[.string ((rd_T64 l0_1 x13_1).f0)] rfl (by (try simp only [List.map_toArray, List.map_cons, List.map_nil]); first | done | rfl | (simp only [List.length_drop, List.length_take]; rfl)) ?_; (with_reducible refine (attribute_IsName.calls k1 ((rd_T64 l0_1 x13_1).f0) true _ A7.out).mono ?_); rintro e w' ⟨rfl, ⟨nd, rfl⟩⟩; refine ⟨_, rfl, ?_⟩; have hcz20_0 : w17.cell? ⟨gb167, 0, none⟩ = some (.int .i64 a0_0) := (blk_cell BK167.out 0).trans rfl; have hcz20_1 : w17.cell? ⟨gb167, 1, none⟩ = some (.slice (some ad168) l0_1.length c0_1) := (blk_cell BK167.out 1).trans rfl; have hcz20_2 : w17.cell? ⟨gb167, 2, none⟩ = some (.slice A0_2 l0_2.length c0_2) := (blk_cell BK167.out 2).trans rfl; have hcz20_3 : w17.cell? ⟨gb167, 3, none⟩ = some (.slice A0_3 l0_3.length c0_3) := (blk_cell BK167.out 3).trans rfl; have hcz20_4 : w17.cell? ⟨gb167, 4, none⟩ = some (.slice A0_4 l0_4.length c0_4) := (blk_cell BK167.out 4).trans rfl; have hcz20_5 : w17.cell? ⟨gb167, 5, none⟩ = some (.int .i64 a0_5) := (blk_cell BK167.out 5).trans rfl; have hcz20_6 : w17.cell? ⟨gb167, 6, none⟩ = some (.int .i64 a0_6) := (blk_cell BK167.out 6).trans rfl; have hcz20_7 : w17.cell? ⟨gb167, 7, none⟩ = some (.int .i64 a0_7) := (blk_cell BK167.out 7).trans rfl; have hcz20_8 : w17.cell? ⟨gb167, 8, none⟩ = some (.int .i64 a0_8) := (blk_cell BK167.out 8).trans rfl; have hcz20_9 : w17.cell? ⟨gb167, 9, none⟩ = some (.int .i64 a0_9) := (blk_cell BK167.out 9).trans rfl; have hcz20_10 : w17.cell? ⟨gb167, 10, none⟩ = some (.int .i64 a0_10) := (blk_cell BK167.out 10).trans rfl; have hcz20_11 : w17.cell? ⟨gb167, 11, none⟩ = some (.int .i64 a0_11) := (blk_cell BK167.out 11).trans rfl; have hfz20_0 := blk_frozen BK167.out 0; have hfz20_1 := blk_frozen BK167.out 1; have hfz20_2 := blk_frozen BK167.out 2; have hfz20_3 := blk_frozen BK167.out 3; have hfz20_4 := blk_frozen BK167.out 4; have hfz20_5 := blk_frozen BK167.out 5; have hfz20_6 := blk_frozen BK167.out 6; have hfz20_7 := blk_frozen BK167.out 7; have hfz20_8 := blk_frozen BK167.out 8; have hfz20_9 := blk_frozen BK167.out 9; have hfz20_10 := blk_frozen BK167.out 10; have hfz20_11 := blk_frozen BK167.out 11) | ((with_reducible refine gate_callee (f := 80) rfl ?_); refine goesL_ (some 27) rfl rfl Try.func80 (by kernel_rfl) rfl #[.agg #[.int .i64 a0_0, .slice (some ad168) l0_1.length c0_1, .slice A0_2 l0_2.length c0_2, .slice A0_3 l0_3.length c0_3, .slice A0_4 l0_4.length c0_4, .int .i64 a0_5, .int .i64 a0_6, .int .i64 a0_7, .int .i64 a0_8, .int .i64 a0_9, .int .i64 a0_10, .int .i64 a0_11], .string ((rd_T64 l0_1 x13_1).f0)] rfl (by (try simp only [List.map_toArray, List.map_cons, List.map_nil]); first | done | rfl | (simp only [List.length_drop, List.length_take]; rfl)) ?_; (with_reducible refine (simulate_Config_index.calls a0_0 _ _ l0_1 _ _ l0_2 _ _ l0_3 _ _ l0_4 a0_5 a0_6 a0_7 a0_8 a0_9 a0_10 a0_11 ((rd_T64 l0_1 x13_1).f0) t171 _ ?side1 ?side2 ?side3 ?side4 ?side5 ?side6 ?side7 ?side8 A9.out).mono ?_); (case side1 => exact Kd.C_below HR0_1.out (by repeat (first | (with_reducible first | exact HB.out | apply below_alloc | apply pw_below_drewN | apply below_drew1 | refine below_set ?_ GE167.out | refine below_set ?_ GE169.out) | exact HB.out))); (case side2 => exact HC0_1.out); (case side3 => exact Kd.C_below HR0_2.out (by repeat (first | (with_reducible first | exact HB.out | apply below_alloc | apply pw_below_drewN | apply below_drew1 | refine below_set ?_ GE167.out | refine below_set ?_ GE169.out) | exact HB.out))); (case side4 => exact HC0_2.out); (case side5 => exact Kd.C_below HR0_3.out (by repeat (first | (with_reducible first | exact HB.out | apply below_alloc | apply pw_below_drewN | apply below_drew1 | refine below_set ?_ GE167.out | refine below_set ?_ GE169.out) | exact HB.out))); (case side6 => exact HC0_3.out); (case side7 => exact Kd.C_below HR0_4.out (by repeat (first | (with_reducible first | exact HB.out | apply below_alloc | apply pw_below_drewN | apply below_drew1 | refine below_set ?_ GE167.out | refine below_set ?_ GE169.out) | exact HB.out))); (case side8 => exact HC0_4.out); rintro e w21 ⟨rfl, hb⟩; refine ⟨_, rfl, ?_⟩; have n0_ := Aside0.mk (blk_below (g := gb167) (o := .cells #[.int .i64 a0_0, .slice (some ad168) l0_1.length c0_1, .slice A0_2 l0_2.length c0_2, .slice A0_3 l0_3.length c0_3, .slice A0_4 l0_4.length c0_4, .int .i64 a0_5, .int .i64 a0_6, .int .i64 a0_7, .int .i64 a0_8, .int .i64 a0_9, .int .i64 a0_10, .int .i64 a0_11] 31 (0, 0)) (by (with_reducible repeat (first | refine blk_drewN ?_ _ | refine blk_drew ?_ | refine blk_alloc ?_ _)); refine blk_far ?_ NB167_169.out _; (with_reducible repeat (first | refine blk_drewN ?_ _ | refine blk_drew ?_ | refine blk_alloc ?_ _)); refine blk_far ?_ NB167_169.out _; (with_reducible repeat (first | refine blk_drewN ?_ _ | refine blk_drew ?_ | refine blk_alloc ?_ _)); refine blk_far ?_ NB167_169.out _; (with_reducible repeat (first | refine blk_drewN ?_ _ | refine blk_drew ?_ | refine blk_alloc ?_ _)); refine blk_far ?_ NB167_169.out _; (with_reducible repeat (first | refine blk_drewN ?_ _ | refine blk_drew ?_ | refine blk_alloc ?_ _)); refine blk_far ?_ NB167_169.out _; (with_reducible repeat (first | refine blk_drewN ?_ _ | refine blk_drew ?_ | refine blk_alloc ?_ _)); refine blk_far ?_ NB167_169.out _; (with_reducible repeat (first | refine blk_drewN ?_ _ | refine blk_drew ?_ | refine blk_alloc ?_ _)); exact BK167.out) hb); have n1_ := Aside0.mk (blk_below (g := gb169) (o := .cells #[.string ((rd_T64 l0_1 x13_1).f0), .int .i64 ((rd_T64 l0_1 x13_1).f1), .int .i64 ((rd_T64 l0_1 x13_1).f2), .int .i64 ((rd_T64 l0_1 x13_1).f3), .int .i64 ((rd_T64 l0_1 x13_1).f4), .slice A168_5 ((rd_T64 l0_1 x13_1).f5).length c168_5] 64 (0, 0)) (by (with_reducible repeat (first | refine blk_drewN ?_ _ | refine blk_drew ?_ | refine blk_alloc ?_ _)); refine blk_put (cs := #[.string ((rd_T64 l0_1 x13_1).f0), .int .i64 ((rd_T64 l0_1 x13_1).f1), .int .i64 ((rd_T64 l0_1 x13_1).f2), .int .i64 ((rd_T64 l0_1 x13_1).f3), .int .i64 ((rd_T64 l0_1 x13_1).f4), .slice none 0 0]) ?_ 5 _ rfl; (with_reducible repeat (first | refine blk_drewN ?_ _ | refine blk_drew ?_ | refine blk_alloc ?_ _)); refine blk_put (cs := #[.string ((rd_T64 l0_1 x13_1).f0), .int .i64 ((rd_T64 l0_1 x13_1).f1), .int .i64 ((rd_T64 l0_1 x13_1).f2), .int .i64 ((rd_T64 l0_1 x13_1).f3), .int .i64 0, .slice none 0 0]) ?_ 4 _ rfl; (with_reducible repeat (first | refine blk_drewN ?_ _ | refine blk_drew ?_ | refine blk_alloc ?_ _)); refine blk_put (cs := #[.string ((rd_T64 l0_1 x13_1).f0), .int .i64 ((rd_T64 l0_1 x13_1).f1), .int .i64 ((rd_T64 l0_1 x13_1).f2), .int .i64 0, .int .i64 0, .slice none 0 0]) ?_ 3 _ rfl; (with_reducible repeat (first | refine blk_drewN ?_ _ | refine blk_drew ?_ | refine blk_alloc ?_ _)); refine blk_put (cs := #[.string ((rd_T64 l0_1 x13_1).f0), .int .i64 ((rd_T64 l0_1 x13_1).f1), .int .i64 0, .int .i64 0, .int .i64 0, .slice none 0 0]) ?_ 2 _ rfl; (with_reducible repeat (first | refine blk_drewN ?_ _ | refine blk_drew ?_ | refine blk_alloc ?_ _)); refine blk_put (cs := #[.string ((rd_T64 l0_1 x13_1).f0), .int .i64 0, .int .i64 0, .int .i64 0, .int .i64 0, .slice none 0 0]) ?_ 1 _ rfl; (with_reducible repeat (first | refine blk_drewN ?_ _ | refine blk_drew ?_ | refine blk_alloc ?_ _)); refine blk_put (cs := #[.string (⟨#[]⟩ : ByteArray), .int .i64 0, .int .i64 0, .int .i64 0, .int .i64 0, .slice none 0 0]) ?_ 0 _ rfl; (with_reducible repeat (first | refine blk_drewN ?_ _ | refine blk_drew ?_ | refine blk_alloc ?_ _)); exact BK169.out) hb); have n2_ := Aside0.mk (below_step (by repeat (first | (with_reducible first | exact HB.out | apply below_alloc | apply pw_below_drewN | apply below_drew1 | refine below_set ?_ GE167.out | refine below_set ?_ GE169.out) | exact HB.out)) hb); clear BK167; clear BK169; clear HB; have BK167 := n0_; have BK169 := n1_; have HB := n2_; clear n0_ n1_ n2_; (try clear hb); (try clear hb2); (try clear hk); (try clear hi)))
                (try simp only [Act.put, List.setIfInBounds_toArray, List.set_cons_zero, List.set_cons_succ])
                go_cut [30] (fun v30 wc => ∃ (kq : Nat) (x30_15 : Bool), v30 = .bool x30_15 ∧ Aside0 (simulate_Config_checkServices.j1 kq l0_1 (l0_1.length : Int) x13_1 x30_15 a0_0 l0_1 l0_2 l0_3 l0_4 a0_5 a0_6 a0_7 a0_8 a0_9 a0_10 a0_11 ((rd_T64 l0_1 x13_1).f0) ((rd_T64 l0_1 x13_1).f1) ((rd_T64 l0_1 x13_1).f2) ((rd_T64 l0_1 x13_1).f3) ((rd_T64 l0_1 x13_1).f4) ((rd_T64 l0_1 x13_1).f5) = some r) ∧ Aside0 (kq ≤ k1) ∧ Aside0 (wc.heap[gb167]? = some (.cells #[.int .i64 a0_0, (.slice (some ad168) l0_1.length c0_1), (.slice A0_2 l0_2.length c0_2), (.slice A0_3 l0_3.length c0_3), (.slice A0_4 l0_4.length c0_4), .int .i64 a0_5, .int .i64 a0_6, .int .i64 a0_7, .int .i64 a0_8, .int .i64 a0_9, .int .i64 a0_10, .int .i64 a0_11] 31 (0, 0))) ∧ Aside0 (wc.heap[gb169]? = some (.cells #[.string ((rd_T64 l0_1 x13_1).f0), .int .i64 ((rd_T64 l0_1 x13_1).f1), .int .i64 ((rd_T64 l0_1 x13_1).f2), .int .i64 ((rd_T64 l0_1 x13_1).f3), .int .i64 ((rd_T64 l0_1 x13_1).f4), (.slice A168_5 ((rd_T64 l0_1 x13_1).f5).length c168_5)] 64 (0, 0))) ∧ Aside0 (Below w.heap.size w wc))
                case first =>
                  have H := HC16.out
                  clear HC16
                  replace H := Option.bind_eq_some_iff.mp H
                  obtain ⟨t172, A220, H⟩ := H
                  replace H : (if t172 = true then (simulate_Config_checkServices.j1 k1 l0_1 (l0_1.length : Int) x13_1 true a0_0 l0_1 l0_2 l0_3 l0_4 a0_5 a0_6 a0_7 a0_8 a0_9 a0_10 a0_11 ((rd_T64 l0_1 x13_1).f0) ((rd_T64 l0_1 x13_1).f1) ((rd_T64 l0_1 x13_1).f2) ((rd_T64 l0_1 x13_1).f3) ((rd_T64 l0_1 x13_1).f4) ((rd_T64 l0_1 x13_1).f5)) else ((simulate_outside.f ((rd_T64 l0_1 x13_1).f2) 0 1048576).bind fun t173 => (if t173 = true then (simulate_Config_checkServices.j1 k1 l0_1 (l0_1.length : Int) x13_1 true a0_0 l0_1 l0_2 l0_3 l0_4 a0_5 a0_6 a0_7 a0_8 a0_9 a0_10 a0_11 ((rd_T64 l0_1 x13_1).f0) ((rd_T64 l0_1 x13_1).f1) ((rd_T64 l0_1 x13_1).f2) ((rd_T64 l0_1 x13_1).f3) ((rd_T64 l0_1 x13_1).f4) ((rd_T64 l0_1 x13_1).f5)) else ((simulate_outside.f ((rd_T64 l0_1 x13_1).f3) 0 1048576).bind fun t174 => (if t174 = true then (simulate_Config_checkServices.j1 k1 l0_1 (l0_1.length : Int) x13_1 true a0_0 l0_1 l0_2 l0_3 l0_4 a0_5 a0_6 a0_7 a0_8 a0_9 a0_10 a0_11 ((rd_T64 l0_1 x13_1).f0) ((rd_T64 l0_1 x13_1).f1) ((rd_T64 l0_1 x13_1).f2) ((rd_T64 l0_1 x13_1).f3) ((rd_T64 l0_1 x13_1).f4) ((rd_T64 l0_1 x13_1).f5)) else ((simulate_outside.f ((rd_T64 l0_1 x13_1).f4) 0 1000000).bind fun t175 => (simulate_Config_checkServices.j1 k1 l0_1 (l0_1.length : Int) x13_1 t175 a0_0 l0_1 l0_2 l0_3 l0_4 a0_5 a0_6 a0_7 a0_8 a0_9 a0_10 a0_11 ((rd_T64 l0_1 x13_1).f0) ((rd_T64 l0_1 x13_1).f1) ((rd_T64 l0_1 x13_1).f2) ((rd_T64 l0_1 x13_1).f3) ((rd_T64 l0_1 x13_1).f4) ((rd_T64 l0_1 x13_1).f5)))))))) = some r := H
                  have A22 := Aside0.mk A220
                  clear A220
                  by_cases c23 : t172 = true
                  · subst c23
                    have H1 : (simulate_Config_checkServices.j1 k1 l0_1 (l0_1.length : Int) x13_1 true a0_0 l0_1 l0_2 l0_3 l0_4 a0_5 a0_6 a0_7 a0_8 a0_9 a0_10 a0_11 ((rd_T64 l0_1 x13_1).f0) ((rd_T64 l0_1 x13_1).f1) ((rd_T64 l0_1 x13_1).f2) ((rd_T64 l0_1 x13_1).f3) ((rd_T64 l0_1 x13_1).f4) ((rd_T64 l0_1 x13_1).f5)) = some r := by rw [if_pos rfl] at H; exact H
                    clear H
                    have H := H1
                    clear H1
                    have H' := Aside0.mk H
                    clear H
                    have hnb24 := NB169_167.out
                    have hnc24 := NB167_169.out
                    have hcz25_0 : w21.cell? ⟨gb169, 0, none⟩ = some (.string ((rd_T64 l0_1 x13_1).f0)) := (blk_cell BK169.out 0).trans rfl
                    have hcz25_1 : w21.cell? ⟨gb169, 1, none⟩ = some (.int .i64 ((rd_T64 l0_1 x13_1).f1)) := (blk_cell BK169.out 1).trans rfl
                    have hcz25_2 : w21.cell? ⟨gb169, 2, none⟩ = some (.int .i64 ((rd_T64 l0_1 x13_1).f2)) := (blk_cell BK169.out 2).trans rfl
                    have hcz25_3 : w21.cell? ⟨gb169, 3, none⟩ = some (.int .i64 ((rd_T64 l0_1 x13_1).f3)) := (blk_cell BK169.out 3).trans rfl
                    have hcz25_4 : w21.cell? ⟨gb169, 4, none⟩ = some (.int .i64 ((rd_T64 l0_1 x13_1).f4)) := (blk_cell BK169.out 4).trans rfl
                    have hcz25_5 : w21.cell? ⟨gb169, 5, none⟩ = some (.slice A168_5 ((rd_T64 l0_1 x13_1).f5).length c168_5) := (blk_cell BK169.out 5).trans rfl
                    have hfz25_0 := blk_frozen BK169.out 0
                    have hfz25_1 := blk_frozen BK169.out 1
                    have hfz25_2 := blk_frozen BK169.out 2
                    have hfz25_3 := blk_frozen BK169.out 3
                    have hfz25_4 := blk_frozen BK169.out 4
                    have hfz25_5 := blk_frozen BK169.out 5
                    go_wp2_with (first | ((with_reducible refine gate_callee (f := 52) rfl ?_); refine goesL_ (some 33) rfl rfl Try.func52 (by kernel_rfl) rfl #[.int .i64 ((rd_T64 l0_1 x13_1).f1), .int .i64 1, .int .i64 1048576] rfl (by (try simp only [List.map_toArray, List.map_cons, List.map_nil]); first | done | rfl | (simp only [List.length_drop, List.length_take]; rfl)) ?_; (with_reducible refine (simulate_outside.calls ((rd_T64 l0_1 x13_1).f1) 1 1048576 true _ A22.out).mono ?_); rintro e w' ⟨rfl, ⟨nd, rfl⟩⟩; refine ⟨_, rfl, ?_⟩))
                    go_meet
                    case rel => exact ⟨_, (true), (by first | rfl | (simp; done) | (simp [*]; done)), H', ⟨by have := HK1.out; first | omega | exact Nat.le_refl _⟩, ⟨by (with_reducible repeat (first | refine blk_drewN ?_ _ | refine blk_drew ?_ | refine blk_alloc ?_ _)); exact BK167.out⟩, ⟨by (with_reducible repeat (first | refine blk_drewN ?_ _ | refine blk_drew ?_ | refine blk_alloc ?_ _)); exact BK169.out⟩, ⟨by repeat (first | (with_reducible first | exact HB.out | apply below_alloc | apply pw_below_drewN | apply below_drew1 | refine below_set ?_ GE167.out | refine below_set ?_ GE169.out) | exact HB.out)⟩⟩
                  · replace c23 := Bool.eq_false_iff.mpr c23
                    subst c23
                    have H1 : ((simulate_outside.f ((rd_T64 l0_1 x13_1).f2) 0 1048576).bind fun t173 => (if t173 = true then (simulate_Config_checkServices.j1 k1 l0_1 (l0_1.length : Int) x13_1 true a0_0 l0_1 l0_2 l0_3 l0_4 a0_5 a0_6 a0_7 a0_8 a0_9 a0_10 a0_11 ((rd_T64 l0_1 x13_1).f0) ((rd_T64 l0_1 x13_1).f1) ((rd_T64 l0_1 x13_1).f2) ((rd_T64 l0_1 x13_1).f3) ((rd_T64 l0_1 x13_1).f4) ((rd_T64 l0_1 x13_1).f5)) else ((simulate_outside.f ((rd_T64 l0_1 x13_1).f3) 0 1048576).bind fun t174 => (if t174 = true then (simulate_Config_checkServices.j1 k1 l0_1 (l0_1.length : Int) x13_1 true a0_0 l0_1 l0_2 l0_3 l0_4 a0_5 a0_6 a0_7 a0_8 a0_9 a0_10 a0_11 ((rd_T64 l0_1 x13_1).f0) ((rd_T64 l0_1 x13_1).f1) ((rd_T64 l0_1 x13_1).f2) ((rd_T64 l0_1 x13_1).f3) ((rd_T64 l0_1 x13_1).f4) ((rd_T64 l0_1 x13_1).f5)) else ((simulate_outside.f ((rd_T64 l0_1 x13_1).f4) 0 1000000).bind fun t175 => (simulate_Config_checkServices.j1 k1 l0_1 (l0_1.length : Int) x13_1 t175 a0_0 l0_1 l0_2 l0_3 l0_4 a0_5 a0_6 a0_7 a0_8 a0_9 a0_10 a0_11 ((rd_T64 l0_1 x13_1).f0) ((rd_T64 l0_1 x13_1).f1) ((rd_T64 l0_1 x13_1).f2) ((rd_T64 l0_1 x13_1).f3) ((rd_T64 l0_1 x13_1).f4) ((rd_T64 l0_1 x13_1).f5))))))) = some r := by rw [if_neg (show ¬ (false = true) by decide)] at H; exact H
                    clear H
                    have H := H1
                    clear H1
                    replace H := Option.bind_eq_some_iff.mp H
                    obtain ⟨t173, A260, H⟩ := H
                    replace H : (if t173 = true then (simulate_Config_checkServices.j1 k1 l0_1 (l0_1.length : Int) x13_1 true a0_0 l0_1 l0_2 l0_3 l0_4 a0_5 a0_6 a0_7 a0_8 a0_9 a0_10 a0_11 ((rd_T64 l0_1 x13_1).f0) ((rd_T64 l0_1 x13_1).f1) ((rd_T64 l0_1 x13_1).f2) ((rd_T64 l0_1 x13_1).f3) ((rd_T64 l0_1 x13_1).f4) ((rd_T64 l0_1 x13_1).f5)) else ((simulate_outside.f ((rd_T64 l0_1 x13_1).f3) 0 1048576).bind fun t174 => (if t174 = true then (simulate_Config_checkServices.j1 k1 l0_1 (l0_1.length : Int) x13_1 true a0_0 l0_1 l0_2 l0_3 l0_4 a0_5 a0_6 a0_7 a0_8 a0_9 a0_10 a0_11 ((rd_T64 l0_1 x13_1).f0) ((rd_T64 l0_1 x13_1).f1) ((rd_T64 l0_1 x13_1).f2) ((rd_T64 l0_1 x13_1).f3) ((rd_T64 l0_1 x13_1).f4) ((rd_T64 l0_1 x13_1).f5)) else ((simulate_outside.f ((rd_T64 l0_1 x13_1).f4) 0 1000000).bind fun t175 => (simulate_Config_checkServices.j1 k1 l0_1 (l0_1.length : Int) x13_1 t175 a0_0 l0_1 l0_2 l0_3 l0_4 a0_5 a0_6 a0_7 a0_8 a0_9 a0_10 a0_11 ((rd_T64 l0_1 x13_1).f0) ((rd_T64 l0_1 x13_1).f1) ((rd_T64 l0_1 x13_1).f2) ((rd_T64 l0_1 x13_1).f3) ((rd_T64 l0_1 x13_1).f4) ((rd_T64 l0_1 x13_1).f5)))))) = some r := H
                    have A26 := Aside0.mk A260
                    clear A260
                    by_cases c27 : t173 = true
                    · subst c27
                      have H1 : (simulate_Config_checkServices.j1 k1 l0_1 (l0_1.length : Int) x13_1 true a0_0 l0_1 l0_2 l0_3 l0_4 a0_5 a0_6 a0_7 a0_8 a0_9 a0_10 a0_11 ((rd_T64 l0_1 x13_1).f0) ((rd_T64 l0_1 x13_1).f1) ((rd_T64 l0_1 x13_1).f2) ((rd_T64 l0_1 x13_1).f3) ((rd_T64 l0_1 x13_1).f4) ((rd_T64 l0_1 x13_1).f5)) = some r := by rw [if_pos rfl] at H; exact H
                      clear H
                      have H := H1
                      clear H1
                      have H' := Aside0.mk H
                      clear H
                      have hnb28 := NB169_167.out
                      have hnc28 := NB167_169.out
                      have hcz29_0 : w21.cell? ⟨gb169, 0, none⟩ = some (.string ((rd_T64 l0_1 x13_1).f0)) := (blk_cell BK169.out 0).trans rfl
                      have hcz29_1 : w21.cell? ⟨gb169, 1, none⟩ = some (.int .i64 ((rd_T64 l0_1 x13_1).f1)) := (blk_cell BK169.out 1).trans rfl
                      have hcz29_2 : w21.cell? ⟨gb169, 2, none⟩ = some (.int .i64 ((rd_T64 l0_1 x13_1).f2)) := (blk_cell BK169.out 2).trans rfl
                      have hcz29_3 : w21.cell? ⟨gb169, 3, none⟩ = some (.int .i64 ((rd_T64 l0_1 x13_1).f3)) := (blk_cell BK169.out 3).trans rfl
                      have hcz29_4 : w21.cell? ⟨gb169, 4, none⟩ = some (.int .i64 ((rd_T64 l0_1 x13_1).f4)) := (blk_cell BK169.out 4).trans rfl
                      have hcz29_5 : w21.cell? ⟨gb169, 5, none⟩ = some (.slice A168_5 ((rd_T64 l0_1 x13_1).f5).length c168_5) := (blk_cell BK169.out 5).trans rfl
                      have hfz29_0 := blk_frozen BK169.out 0
                      have hfz29_1 := blk_frozen BK169.out 1
                      have hfz29_2 := blk_frozen BK169.out 2
                      have hfz29_3 := blk_frozen BK169.out 3
                      have hfz29_4 := blk_frozen BK169.out 4
                      have hfz29_5 := blk_frozen BK169.out 5
                      go_wp2_with (first | ((with_reducible refine gate_callee (f := 52) rfl ?_); refine goesL_ (some 33) rfl rfl Try.func52 (by kernel_rfl) rfl #[.int .i64 ((rd_T64 l0_1 x13_1).f1), .int .i64 1, .int .i64 1048576] rfl (by (try simp only [List.map_toArray, List.map_cons, List.map_nil]); first | done | rfl | (simp only [List.length_drop, List.length_take]; rfl)) ?_; (with_reducible refine (simulate_outside.calls ((rd_T64 l0_1 x13_1).f1) 1 1048576 false _ A22.out).mono ?_); rintro e w' ⟨rfl, ⟨nd, rfl⟩⟩; refine ⟨_, rfl, ?_⟩) | (go_at_call 52; (with_reducible refine (simulate_outside.calls ((rd_T64 l0_1 x13_1).f2) 0 1048576 true _ A26.out).mono ?_); rintro e w' ⟨rfl, ⟨nd, rfl⟩⟩))
                      go_meet
                      case rel => exact ⟨_, (true), (by first | rfl | (simp; done) | (simp [*]; done)), H', ⟨by have := HK1.out; first | omega | exact Nat.le_refl _⟩, ⟨by (with_reducible repeat (first | refine blk_drewN ?_ _ | refine blk_drew ?_ | refine blk_alloc ?_ _)); exact BK167.out⟩, ⟨by (with_reducible repeat (first | refine blk_drewN ?_ _ | refine blk_drew ?_ | refine blk_alloc ?_ _)); exact BK169.out⟩, ⟨by repeat (first | (with_reducible first | exact HB.out | apply below_alloc | apply pw_below_drewN | apply below_drew1 | refine below_set ?_ GE167.out | refine below_set ?_ GE169.out) | exact HB.out)⟩⟩
                    · replace c27 := Bool.eq_false_iff.mpr c27
                      subst c27
                      have H1 : ((simulate_outside.f ((rd_T64 l0_1 x13_1).f3) 0 1048576).bind fun t174 => (if t174 = true then (simulate_Config_checkServices.j1 k1 l0_1 (l0_1.length : Int) x13_1 true a0_0 l0_1 l0_2 l0_3 l0_4 a0_5 a0_6 a0_7 a0_8 a0_9 a0_10 a0_11 ((rd_T64 l0_1 x13_1).f0) ((rd_T64 l0_1 x13_1).f1) ((rd_T64 l0_1 x13_1).f2) ((rd_T64 l0_1 x13_1).f3) ((rd_T64 l0_1 x13_1).f4) ((rd_T64 l0_1 x13_1).f5)) else ((simulate_outside.f ((rd_T64 l0_1 x13_1).f4) 0 1000000).bind fun t175 => (simulate_Config_checkServices.j1 k1 l0_1 (l0_1.length : Int) x13_1 t175 a0_0 l0_1 l0_2 l0_3 l0_4 a0_5 a0_6 a0_7 a0_8 a0_9 a0_10 a0_11 ((rd_T64 l0_1 x13_1).f0) ((rd_T64 l0_1 x13_1).f1) ((rd_T64 l0_1 x13_1).f2) ((rd_T64 l0_1 x13_1).f3) ((rd_T64 l0_1 x13_1).f4) ((rd_T64 l0_1 x13_1).f5))))) = some r := by rw [if_neg (show ¬ (false = true) by decide)] at H; exact H
                      clear H
                      have H := H1
                      clear H1
                      replace H := Option.bind_eq_some_iff.mp H
                      obtain ⟨t174, A300, H⟩ := H
                      replace H : (if t174 = true then (simulate_Config_checkServices.j1 k1 l0_1 (l0_1.length : Int) x13_1 true a0_0 l0_1 l0_2 l0_3 l0_4 a0_5 a0_6 a0_7 a0_8 a0_9 a0_10 a0_11 ((rd_T64 l0_1 x13_1).f0) ((rd_T64 l0_1 x13_1).f1) ((rd_T64 l0_1 x13_1).f2) ((rd_T64 l0_1 x13_1).f3) ((rd_T64 l0_1 x13_1).f4) ((rd_T64 l0_1 x13_1).f5)) else ((simulate_outside.f ((rd_T64 l0_1 x13_1).f4) 0 1000000).bind fun t175 => (simulate_Config_checkServices.j1 k1 l0_1 (l0_1.length : Int) x13_1 t175 a0_0 l0_1 l0_2 l0_3 l0_4 a0_5 a0_6 a0_7 a0_8 a0_9 a0_10 a0_11 ((rd_T64 l0_1 x13_1).f0) ((rd_T64 l0_1 x13_1).f1) ((rd_T64 l0_1 x13_1).f2) ((rd_T64 l0_1 x13_1).f3) ((rd_T64 l0_1 x13_1).f4) ((rd_T64 l0_1 x13_1).f5)))) = some r := H
                      have A30 := Aside0.mk A300
                      clear A300
                      by_cases c31 : t174 = true
                      · subst c31
                        have H1 : (simulate_Config_checkServices.j1 k1 l0_1 (l0_1.length : Int) x13_1 true a0_0 l0_1 l0_2 l0_3 l0_4 a0_5 a0_6 a0_7 a0_8 a0_9 a0_10 a0_11 ((rd_T64 l0_1 x13_1).f0) ((rd_T64 l0_1 x13_1).f1) ((rd_T64 l0_1 x13_1).f2) ((rd_T64 l0_1 x13_1).f3) ((rd_T64 l0_1 x13_1).f4) ((rd_T64 l0_1 x13_1).f5)) = some r := by rw [if_pos rfl] at H; exact H
                        clear H
                        have H := H1
                        clear H1
                        have H' := Aside0.mk H
                        clear H
                        have hnb32 := NB169_167.out
                        have hnc32 := NB167_169.out
                        have hcz33_0 : w21.cell? ⟨gb169, 0, none⟩ = some (.string ((rd_T64 l0_1 x13_1).f0)) := (blk_cell BK169.out 0).trans rfl
                        have hcz33_1 : w21.cell? ⟨gb169, 1, none⟩ = some (.int .i64 ((rd_T64 l0_1 x13_1).f1)) := (blk_cell BK169.out 1).trans rfl
                        have hcz33_2 : w21.cell? ⟨gb169, 2, none⟩ = some (.int .i64 ((rd_T64 l0_1 x13_1).f2)) := (blk_cell BK169.out 2).trans rfl
                        have hcz33_3 : w21.cell? ⟨gb169, 3, none⟩ = some (.int .i64 ((rd_T64 l0_1 x13_1).f3)) := (blk_cell BK169.out 3).trans rfl
                        have hcz33_4 : w21.cell? ⟨gb169, 4, none⟩ = some (.int .i64 ((rd_T64 l0_1 x13_1).f4)) := (blk_cell BK169.out 4).trans rfl
                        have hcz33_5 : w21.cell? ⟨gb169, 5, none⟩ = some (.slice A168_5 ((rd_T64 l0_1 x13_1).f5).length c168_5) := (blk_cell BK169.out 5).trans rfl
                        have hfz33_0 := blk_frozen BK169.out 0
                        have hfz33_1 := blk_frozen BK169.out 1
                        have hfz33_2 := blk_frozen BK169.out 2
                        have hfz33_3 := blk_frozen BK169.out 3
                        have hfz33_4 := blk_frozen BK169.out 4
                        have hfz33_5 := blk_frozen BK169.out 5
                        go_wp2_with (first | ((with_reducible refine gate_callee (f := 52) rfl ?_); refine goesL_ (some 33) rfl rfl Try.func52 (by kernel_rfl) rfl #[.int .i64 ((rd_T64 l0_1 x13_1).f1), .int .i64 1, .int .i64 1048576] rfl (by (try simp only [List.map_toArray, List.map_cons, List.map_nil]); first | done | rfl | (simp only [List.length_drop, List.length_take]; rfl)) ?_; (with_reducible refine (simulate_outside.calls ((rd_T64 l0_1 x13_1).f1) 1 1048576 false _ A22.out).mono ?_); rintro e w' ⟨rfl, ⟨nd, rfl⟩⟩; refine ⟨_, rfl, ?_⟩) | (go_at_call 52; (with_reducible refine (simulate_outside.calls ((rd_T64 l0_1 x13_1).f2) 0 1048576 false _ A26.out).mono ?_); rintro e w' ⟨rfl, ⟨nd, rfl⟩⟩) | (go_at_call 52; (with_reducible refine (simulate_outside.calls ((rd_T64 l0_1 x13_1).f3) 0 1048576 true _ A30.out).mono ?_); rintro e w' ⟨rfl, ⟨nd, rfl⟩⟩))
                        go_meet
                        case rel => exact ⟨_, (true), (by first | rfl | (simp; done) | (simp [*]; done)), H', ⟨by have := HK1.out; first | omega | exact Nat.le_refl _⟩, ⟨by (with_reducible repeat (first | refine blk_drewN ?_ _ | refine blk_drew ?_ | refine blk_alloc ?_ _)); exact BK167.out⟩, ⟨by (with_reducible repeat (first | refine blk_drewN ?_ _ | refine blk_drew ?_ | refine blk_alloc ?_ _)); exact BK169.out⟩, ⟨by repeat (first | (with_reducible first | exact HB.out | apply below_alloc | apply pw_below_drewN | apply below_drew1 | refine below_set ?_ GE167.out | refine below_set ?_ GE169.out) | exact HB.out)⟩⟩
                      · replace c31 := Bool.eq_false_iff.mpr c31
                        subst c31
                        have H1 : ((simulate_outside.f ((rd_T64 l0_1 x13_1).f4) 0 1000000).bind fun t175 => (simulate_Config_checkServices.j1 k1 l0_1 (l0_1.length : Int) x13_1 t175 a0_0 l0_1 l0_2 l0_3 l0_4 a0_5 a0_6 a0_7 a0_8 a0_9 a0_10 a0_11 ((rd_T64 l0_1 x13_1).f0) ((rd_T64 l0_1 x13_1).f1) ((rd_T64 l0_1 x13_1).f2) ((rd_T64 l0_1 x13_1).f3) ((rd_T64 l0_1 x13_1).f4) ((rd_T64 l0_1 x13_1).f5))) = some r := by rw [if_neg (show ¬ (false = true) by decide)] at H; exact H
                        clear H
                        have H := H1
                        clear H1
                        replace H := Option.bind_eq_some_iff.mp H
                        obtain ⟨t175, A340, H⟩ := H
                        replace H : (simulate_Config_checkServices.j1 k1 l0_1 (l0_1.length : Int) x13_1 t175 a0_0 l0_1 l0_2 l0_3 l0_4 a0_5 a0_6 a0_7 a0_8 a0_9 a0_10 a0_11 ((rd_T64 l0_1 x13_1).f0) ((rd_T64 l0_1 x13_1).f1) ((rd_T64 l0_1 x13_1).f2) ((rd_T64 l0_1 x13_1).f3) ((rd_T64 l0_1 x13_1).f4) ((rd_T64 l0_1 x13_1).f5)) = some r := H
                        have A34 := Aside0.mk A340
                        clear A340
                        have H' := Aside0.mk H
                        clear H
                        have hnb35 := NB169_167.out
                        have hnc35 := NB167_169.out
                        have hcz36_0 : w21.cell? ⟨gb169, 0, none⟩ = some (.string ((rd_T64 l0_1 x13_1).f0)) := (blk_cell BK169.out 0).trans rfl
                        have hcz36_1 : w21.cell? ⟨gb169, 1, none⟩ = some (.int .i64 ((rd_T64 l0_1 x13_1).f1)) := (blk_cell BK169.out 1).trans rfl
                        have hcz36_2 : w21.cell? ⟨gb169, 2, none⟩ = some (.int .i64 ((rd_T64 l0_1 x13_1).f2)) := (blk_cell BK169.out 2).trans rfl
                        have hcz36_3 : w21.cell? ⟨gb169, 3, none⟩ = some (.int .i64 ((rd_T64 l0_1 x13_1).f3)) := (blk_cell BK169.out 3).trans rfl
                        have hcz36_4 : w21.cell? ⟨gb169, 4, none⟩ = some (.int .i64 ((rd_T64 l0_1 x13_1).f4)) := (blk_cell BK169.out 4).trans rfl
                        have hcz36_5 : w21.cell? ⟨gb169, 5, none⟩ = some (.slice A168_5 ((rd_T64 l0_1 x13_1).f5).length c168_5) := (blk_cell BK169.out 5).trans rfl
                        have hfz36_0 := blk_frozen BK169.out 0
                        have hfz36_1 := blk_frozen BK169.out 1
                        have hfz36_2 := blk_frozen BK169.out 2
                        have hfz36_3 := blk_frozen BK169.out 3
                        have hfz36_4 := blk_frozen BK169.out 4
                        have hfz36_5 := blk_frozen BK169.out 5
                        go_wp2_with (first | ((with_reducible refine gate_callee (f := 52) rfl ?_); refine goesL_ (some 33) rfl rfl Try.func52 (by kernel_rfl) rfl #[.int .i64 ((rd_T64 l0_1 x13_1).f1), .int .i64 1, .int .i64 1048576] rfl (by (try simp only [List.map_toArray, List.map_cons, List.map_nil]); first | done | rfl | (simp only [List.length_drop, List.length_take]; rfl)) ?_; (with_reducible refine (simulate_outside.calls ((rd_T64 l0_1 x13_1).f1) 1 1048576 false _ A22.out).mono ?_); rintro e w' ⟨rfl, ⟨nd, rfl⟩⟩; refine ⟨_, rfl, ?_⟩) | (go_at_call 52; (with_reducible refine (simulate_outside.calls ((rd_T64 l0_1 x13_1).f2) 0 1048576 false _ A26.out).mono ?_); rintro e w' ⟨rfl, ⟨nd, rfl⟩⟩) | (go_at_call 52; (with_reducible refine (simulate_outside.calls ((rd_T64 l0_1 x13_1).f3) 0 1048576 false _ A30.out).mono ?_); rintro e w' ⟨rfl, ⟨nd, rfl⟩⟩) | (go_at_call 52; (with_reducible refine (simulate_outside.calls ((rd_T64 l0_1 x13_1).f4) 0 1000000 t175 _ A34.out).mono ?_); rintro e w' ⟨rfl, ⟨nd, rfl⟩⟩))
                        go_meet
                        case rel => exact ⟨_, (t175), (by first | rfl | (simp; done) | (simp [*]; done)), H', ⟨by have := HK1.out; first | omega | exact Nat.le_refl _⟩, ⟨by (with_reducible repeat (first | refine blk_drewN ?_ _ | refine blk_drew ?_ | refine blk_alloc ?_ _)); exact BK167.out⟩, ⟨by (with_reducible repeat (first | refine blk_drewN ?_ _ | refine blk_drew ?_ | refine blk_alloc ?_ _)); exact BK169.out⟩, ⟨by repeat (first | (with_reducible first | exact HB.out | apply below_alloc | apply pw_below_drewN | apply below_drew1 | refine below_set ?_ GE167.out | refine below_set ?_ GE169.out) | exact HB.out)⟩⟩
                case rest =>
                  clear HC16
                  try clear c1
                  try clear p1
                  try clear q1
                  try clear hx1
                  try clear c2
                  try clear p2
                  try clear c3
                  try clear c4
                  try clear c4b0
                  try clear c5
                  try clear c5b0
                  try clear c6
                  try clear c6b0
                  try clear c8
                  try clear c10
                  try clear c10b0
                  try clear c12
                  try clear c16
                  try clear p16
                  try clear q16
                  try clear hx16
                  try clear c18
                  try clear c23
                  try clear c24
                  try clear c27
                  try clear c28
                  try clear c31
                  try clear c32
                  try clear c35
                  try clear hcz13_0
                  try clear hcz13_1
                  try clear hcz13_2
                  try clear hcz13_3
                  try clear hcz13_4
                  try clear hcz13_5
                  try clear hcz14_0
                  try clear hcz14_1
                  try clear hcz14_10
                  try clear hcz14_11
                  try clear hcz14_2
                  try clear hcz14_3
                  try clear hcz14_4
                  try clear hcz14_5
                  try clear hcz14_6
                  try clear hcz14_7
                  try clear hcz14_8
                  try clear hcz14_9
                  try clear hcz19_0
                  try clear hcz19_1
                  try clear hcz19_2
                  try clear hcz19_3
                  try clear hcz19_4
                  try clear hcz19_5
                  try clear hcz20_0
                  try clear hcz20_1
                  try clear hcz20_10
                  try clear hcz20_11
                  try clear hcz20_2
                  try clear hcz20_3
                  try clear hcz20_4
                  try clear hcz20_5
                  try clear hcz20_6
                  try clear hcz20_7
                  try clear hcz20_8
                  try clear hcz20_9
                  try clear hcz25_0
                  try clear hcz25_1
                  try clear hcz25_2
                  try clear hcz25_3
                  try clear hcz25_4
                  try clear hcz25_5
                  try clear hcz29_0
                  try clear hcz29_1
                  try clear hcz29_2
                  try clear hcz29_3
                  try clear hcz29_4
                  try clear hcz29_5
                  try clear hcz33_0
                  try clear hcz33_1
                  try clear hcz33_2
                  try clear hcz33_3
                  try clear hcz33_4
                  try clear hcz33_5
                  try clear hcz36_0
                  try clear hcz36_1
                  try clear hcz36_2
                  try clear hcz36_3
                  try clear hcz36_4
                  try clear hcz36_5
                  try clear hcz3_0
                  try clear hcz3_1
                  try clear hcz3_10
                  try clear hcz3_11
                  try clear hcz3_2
                  try clear hcz3_3
                  try clear hcz3_4
                  try clear hcz3_5
                  try clear hcz3_6
                  try clear hcz3_7
                  try clear hcz3_8
                  try clear hcz3_9
                  try clear hfz13_0
                  try clear hfz13_1
                  try clear hfz13_2
                  try clear hfz13_3
                  try clear hfz13_4
                  try clear hfz13_5
                  try clear hfz14_0
                  try clear hfz14_1
                  try clear hfz14_10
                  try clear hfz14_11
                  try clear hfz14_2
                  try clear hfz14_3
                  try clear hfz14_4
                  try clear hfz14_5
                  try clear hfz14_6
                  try clear hfz14_7
                  try clear hfz14_8
                  try clear hfz14_9
                  try clear hfz19_0
                  try clear hfz19_1
                  try clear hfz19_2
                  try clear hfz19_3
                  try clear hfz19_4
                  try clear hfz19_5
                  try clear hfz20_0
                  try clear hfz20_1
                  try clear hfz20_10
                  try clear hfz20_11
                  try clear hfz20_2
                  try clear hfz20_3
                  try clear hfz20_4
                  try clear hfz20_5
                  try clear hfz20_6
                  try clear hfz20_7
                  try clear hfz20_8
                  try clear hfz20_9
                  try clear hfz25_0
                  try clear hfz25_1
                  try clear hfz25_2
                  try clear hfz25_3
                  try clear hfz25_4
                  try clear hfz25_5
                  try clear hfz29_0
                  try clear hfz29_1
                  try clear hfz29_2
                  try clear hfz29_3
                  try clear hfz29_4
                  try clear hfz29_5
                  try clear hfz33_0
                  try clear hfz33_1
                  try clear hfz33_2
                  try clear hfz33_3
                  try clear hfz33_4
                  try clear hfz33_5
                  try clear hfz36_0
                  try clear hfz36_1
                  try clear hfz36_2
                  try clear hfz36_3
                  try clear hfz36_4
                  try clear hfz36_5
                  try clear hfz3_0
                  try clear hfz3_1
                  try clear hfz3_10
                  try clear hfz3_11
                  try clear hfz3_2
                  try clear hfz3_3
                  try clear hfz3_4
                  try clear hfz3_5
                  try clear hfz3_6
                  try clear hfz3_7
                  try clear hfz3_8
                  try clear hfz3_9
                  try clear hx168_0
                  try clear hx168_1
                  try clear hx168_2
                  try clear hx168_3
                  try clear hx168_4
                  try clear hx168_5
                  try clear p168
                  try clear p2
                  try clear q168
                  obtain ⟨kq, x30_15, rfl, HA, HJ15, BK167, BK169, HB⟩ := hcut
                  cases kq with
                  | zero => exact absurd HA.out (by simp [simulate_Config_checkServices.j1])
                  | succ kj15 =>
                    have H := HA.out
                    clear HA
                    simp only [simulate_Config_checkServices.j1] at H
                    by_cases c37 : x30_15 = true
                    · subst c37
                      have H1 : (some 2) = some r := by rw [if_pos rfl] at H; exact H
                      clear H
                      have H := H1
                      clear H1
                      obtain rfl := Option.some.inj H
                      go_wp2
                      go_ret
                      exact ⟨by first | rfl | (simp [errW_none, errW_some] <;> rfl) | (simp [*, errW_none, errW_some] <;> rfl), by repeat (first | (with_reducible first | exact HB.out | apply below_alloc | apply pw_below_drewN | apply below_drew1 | refine below_set ?_ GE167.out | refine below_set ?_ GE169.out) | exact HB.out)⟩
                    · replace c37 := Bool.eq_false_iff.mpr c37
                      subst c37
                      have H1 : (if (((rd_T64 l0_1 x13_1).f5).length : Int) > 8 then (some 6) else (simulate_Config_checkServices.l0 kj15 l0_1 (l0_1.length : Int) (wrap64 (x13_1 + 1)) a0_0 l0_1 l0_2 l0_3 l0_4 a0_5 a0_6 a0_7 a0_8 a0_9 a0_10 a0_11)) = some r := by rw [if_neg (show ¬ (false = true) by decide)] at H; exact H
                      clear H
                      have H := H1
                      clear H1
                      by_cases c38 : (((rd_T64 l0_1 x13_1).f5).length : Int) > 8
                      · rw [if_pos c38] at H
                        have c38b0 : decide (8 < (((rd_T64 l0_1 x13_1).f5).length : Int)) = true := decide_eq_true c38
                        have c38b1 : decide (8 < ((rd_T64 l0_1 x13_1).f5).length) = true := decide_eq_true (by omega)
                        clear c38
                        obtain rfl := Option.some.inj H
                        have hnb39 := NB169_167.out
                        have hnc39 := NB167_169.out
                        have hcz40_0 : wc.cell? ⟨gb169, 0, none⟩ = some (.string ((rd_T64 l0_1 x13_1).f0)) := (blk_cell BK169.out 0).trans rfl
                        have hcz40_1 : wc.cell? ⟨gb169, 1, none⟩ = some (.int .i64 ((rd_T64 l0_1 x13_1).f1)) := (blk_cell BK169.out 1).trans rfl
                        have hcz40_2 : wc.cell? ⟨gb169, 2, none⟩ = some (.int .i64 ((rd_T64 l0_1 x13_1).f2)) := (blk_cell BK169.out 2).trans rfl
                        have hcz40_3 : wc.cell? ⟨gb169, 3, none⟩ = some (.int .i64 ((rd_T64 l0_1 x13_1).f3)) := (blk_cell BK169.out 3).trans rfl
                        have hcz40_4 : wc.cell? ⟨gb169, 4, none⟩ = some (.int .i64 ((rd_T64 l0_1 x13_1).f4)) := (blk_cell BK169.out 4).trans rfl
                        have hcz40_5 : wc.cell? ⟨gb169, 5, none⟩ = some (.slice A168_5 ((rd_T64 l0_1 x13_1).f5).length c168_5) := (blk_cell BK169.out 5).trans rfl
                        have hfz40_0 := blk_frozen BK169.out 0
                        have hfz40_1 := blk_frozen BK169.out 1
                        have hfz40_2 := blk_frozen BK169.out 2
                        have hfz40_3 := blk_frozen BK169.out 3
                        have hfz40_4 := blk_frozen BK169.out 4
                        have hfz40_5 := blk_frozen BK169.out 5
                        go_wp2
                        go_ret
                        exact ⟨by first | rfl | (simp [errW_none, errW_some] <;> rfl) | (simp [*, errW_none, errW_some] <;> rfl), by repeat (first | (with_reducible first | exact HB.out | apply below_alloc | apply pw_below_drewN | apply below_drew1 | refine below_set ?_ GE167.out | refine below_set ?_ GE169.out) | exact HB.out)⟩
                      · rw [if_neg c38] at H
                        have c38b0 : decide (8 < (((rd_T64 l0_1 x13_1).f5).length : Int)) = false := decide_eq_false c38
                        have c38b1 : decide (8 < ((rd_T64 l0_1 x13_1).f5).length) = false := decide_eq_false (by omega)
                        clear c38
                        have H' := Aside0.mk H
                        clear H
                        have hnb41 := NB169_167.out
                        have hnc41 := NB167_169.out
                        have hcz42_0 : wc.cell? ⟨gb169, 0, none⟩ = some (.string ((rd_T64 l0_1 x13_1).f0)) := (blk_cell BK169.out 0).trans rfl
                        have hcz42_1 : wc.cell? ⟨gb169, 1, none⟩ = some (.int .i64 ((rd_T64 l0_1 x13_1).f1)) := (blk_cell BK169.out 1).trans rfl
                        have hcz42_2 : wc.cell? ⟨gb169, 2, none⟩ = some (.int .i64 ((rd_T64 l0_1 x13_1).f2)) := (blk_cell BK169.out 2).trans rfl
                        have hcz42_3 : wc.cell? ⟨gb169, 3, none⟩ = some (.int .i64 ((rd_T64 l0_1 x13_1).f3)) := (blk_cell BK169.out 3).trans rfl
                        have hcz42_4 : wc.cell? ⟨gb169, 4, none⟩ = some (.int .i64 ((rd_T64 l0_1 x13_1).f4)) := (blk_cell BK169.out 4).trans rfl
                        have hcz42_5 : wc.cell? ⟨gb169, 5, none⟩ = some (.slice A168_5 ((rd_T64 l0_1 x13_1).f5).length c168_5) := (blk_cell BK169.out 5).trans rfl
                        have hfz42_0 := blk_frozen BK169.out 0
                        have hfz42_1 := blk_frozen BK169.out 1
                        have hfz42_2 := blk_frozen BK169.out 2
                        have hfz42_3 := blk_frozen BK169.out 3
                        have hfz42_4 := blk_frozen BK169.out 4
                        have hfz42_5 := blk_frozen BK169.out 5
                        go_wp2
                        go_roundg kj15
                        case measure => have := HK1.out; have := HJ15.out; omega
                        case rel => exact ⟨(wrap64 (x13_1 + 1)), (by first | rfl | (simp; done) | (simp [*]; done)), H', ⟨by have := HK1.out; have := HJ15.out; omega⟩, ⟨by (with_reducible repeat (first | refine blk_drewN ?_ _ | refine blk_drew ?_ | refine blk_alloc ?_ _)); exact BK167.out⟩, ⟨by repeat (first | (with_reducible first | exact HB.out | apply below_alloc | apply pw_below_drewN | apply below_drew1 | refine below_set ?_ GE167.out | refine below_set ?_ GE169.out) | exact HB.out)⟩⟩
            · replace c8 := Bool.eq_false_iff.mpr c8
              subst c8
              have H1 : (some 11) = some r := by rw [if_neg (show ¬ (false = true) by decide)] at H; exact H
              clear H
              have H := H1
              clear H1
              obtain rfl := Option.some.inj H
              have p168 : 0 ≤ (x13_1 : Int) := of_decide_eq_true (by first | (with_reducible assumption) | assumption)
              have q168 : x13_1 < (l0_1.length : Int) := of_decide_eq_true (by first | (with_reducible assumption) | assumption)
              obtain ⟨ad168, A168_5, c168_5, e168, hx168_0, hx168_1, hx168_2, hx168_3, hx168_4, hx168_5, hl168_5, hi168_5⟩ := at_T64 HR0_1.out x13_1 p168 q168
              cases e168
              replace hx168_0 := (HB.out.cell (World.block_lt_of_cell? w _ hx168_0)).trans hx168_0
              replace hx168_1 := (HB.out.cell (World.block_lt_of_cell? w _ hx168_1)).trans hx168_1
              replace hx168_2 := (HB.out.cell (World.block_lt_of_cell? w _ hx168_2)).trans hx168_2
              replace hx168_3 := (HB.out.cell (World.block_lt_of_cell? w _ hx168_3)).trans hx168_3
              replace hx168_4 := (HB.out.cell (World.block_lt_of_cell? w _ hx168_4)).trans hx168_4
              replace hx168_5 := (HB.out.cell (World.block_lt_of_cell? w _ hx168_5)).trans hx168_5
              have HR168_5 := Aside0.mk hi168_5
              have HC168_5 := Aside0.mk hl168_5
              clear hi168_5 hl168_5
              replace p168 := eq_true p168
              replace q168 := eq_true q168
              go_wp2_with (first | ((with_reducible refine gate_dst (N := 4) rfl ?_); refine box_event ?hg (N := 4) ?hd (cs := #[.string (⟨#[]⟩ : ByteArray), .int .i64 0, .int .i64 0, .int .i64 0, .int .i64 0, .slice none 0 0]) (t := 64) ?hr ?_; (case hd => rfl); (case hg => rfl); (case hr => first | (go_simp; done) | (go_simp; rfl)); intro gb169 hg w43 hbox hb; have n0_ := Aside0.mk (blk_below (g := gb167) (o := .cells #[.int .i64 a0_0, .slice (some ad168) l0_1.length c0_1, .slice A0_2 l0_2.length c0_2, .slice A0_3 l0_3.length c0_3, .slice A0_4 l0_4.length c0_4, .int .i64 a0_5, .int .i64 a0_6, .int .i64 a0_7, .int .i64 a0_8, .int .i64 a0_9, .int .i64 a0_10, .int .i64 a0_11] 31 (0, 0)) (by (with_reducible repeat (first | refine blk_drewN ?_ _ | refine blk_drew ?_ | refine blk_alloc ?_ _)); exact BK167.out) hb); have n1_ := Aside0.mk (below_step (by repeat (first | (with_reducible first | exact HB.out | apply below_alloc | apply pw_below_drewN | apply below_drew1 | refine below_set ?_ GE167.out) | exact HB.out)) hb); have n2_ := Aside0.mk (hbox); have n3_ := Aside0.mk ((by rw [hg]; exact (below_size (by repeat (first | (with_reducible first | exact HB.out | apply below_alloc | apply pw_below_drewN | apply below_drew1 | refine below_set ?_ GE167.out) | exact HB.out))) : w.heap.size ≤ gb169)); have n4_ := Aside0.mk ((by rw [hg]; exact (below_size (by repeat (first | (with_reducible first | exact HB.out | apply below_alloc | apply pw_below_drewN | apply below_drew1 | refine below_set ?_ GE167.out) | exact HB.out))) : w.heap.size ≤ gb169)); have n5_ := Aside0.mk ((by rw [hg]; exact Nat.ne_of_lt (blk_lt (g := gb167) (o := .cells #[.int .i64 a0_0, .slice (some ad168) l0_1.length c0_1, .slice A0_2 l0_2.length c0_2, .slice A0_3 l0_3.length c0_3, .slice A0_4 l0_4.length c0_4, .int .i64 a0_5, .int .i64 a0_6, .int .i64 a0_7, .int .i64 a0_8, .int .i64 a0_9, .int .i64 a0_10, .int .i64 a0_11] 31 (0, 0)) (by (with_reducible repeat (first | refine blk_drewN ?_ _ | refine blk_drew ?_ | refine blk_alloc ?_ _)); exact BK167.out)) : gb167 ≠ gb169)); have n6_ := Aside0.mk ((by rw [hg]; exact Nat.ne_of_gt (blk_lt (g := gb167) (o := .cells #[.int .i64 a0_0, .slice (some ad168) l0_1.length c0_1, .slice A0_2 l0_2.length c0_2, .slice A0_3 l0_3.length c0_3, .slice A0_4 l0_4.length c0_4, .int .i64 a0_5, .int .i64 a0_6, .int .i64 a0_7, .int .i64 a0_8, .int .i64 a0_9, .int .i64 a0_10, .int .i64 a0_11] 31 (0, 0)) (by (with_reducible repeat (first | refine blk_drewN ?_ _ | refine blk_drew ?_ | refine blk_alloc ?_ _)); exact BK167.out)) : gb169 ≠ gb167)); clear BK167; clear HB; have BK167 := n0_; have HB := n1_; have BK169 := n2_; have GW169 := n3_; have GE169 := n4_; have NB167_169 := n5_; have NB169_167 := n6_; clear n0_ n1_ n2_ n3_ n4_ n5_ n6_; clear hb hbox hg; have hnb44 := NB169_167.out; have hnc44 := NB167_169.out; have hcz45_0 : w43.cell? ⟨gb169, 0, none⟩ = some (.string (⟨#[]⟩ : ByteArray)) := (blk_cell BK169.out 0).trans rfl; have hcz45_1 : w43.cell? ⟨gb169, 1, none⟩ = some (.int .i64 0) := (blk_cell BK169.out 1).trans rfl; have hcz45_2 : w43.cell? ⟨gb169, 2, none⟩ = some (.int .i64 0) := (blk_cell BK169.out 2).trans rfl; have hcz45_3 : w43.cell? ⟨gb169, 3, none⟩ = some (.int .i64 0) := (blk_cell BK169.out 3).trans rfl; have hcz45_4 : w43.cell? ⟨gb169, 4, none⟩ = some (.int .i64 0) := (blk_cell BK169.out 4).trans rfl; have hcz45_5 : w43.cell? ⟨gb169, 5, none⟩ = some (.slice none 0 0) := (blk_cell BK169.out 5).trans rfl; have hfz45_0 := blk_frozen BK169.out 0; have hfz45_1 := blk_frozen BK169.out 1; have hfz45_2 := blk_frozen BK169.out 2; have hfz45_3 := blk_frozen BK169.out 3; have hfz45_4 := blk_frozen BK169.out 4; have hfz45_5 := blk_frozen BK169.out 5) | ((with_reducible refine gate_callee (f := 51) rfl ?_); refine goesL_ (some 21) rfl rfl Try.func51 (by kernel_rfl) rfl #[.string ((rd_T64 l0_1 x13_1).f0)] rfl (by (try simp only [List.map_toArray, List.map_cons, List.map_nil]); first | done | rfl | (simp only [List.length_drop, List.length_take]; rfl)) ?_; (with_reducible refine (attribute_IsName.calls k1 ((rd_T64 l0_1 x13_1).f0) false _ A7.out).mono ?_); rintro e w' ⟨rfl, ⟨nd, rfl⟩⟩; refine ⟨_, rfl, ?_⟩))
              go_ret
              exact ⟨by first | rfl | (simp [errW_none, errW_some] <;> rfl) | (simp [*, errW_none, errW_some] <;> rfl), by repeat (first | (with_reducible first | exact HB.out | apply below_alloc | apply pw_below_drewN | apply below_drew1 | refine below_set ?_ GE167.out | refine below_set ?_ GE169.out) | exact HB.out)⟩
          · rw [if_neg c6] at H
            exact absurd H (by simp)
        · rw [if_neg c5] at H
          exact absurd H (by simp)
      · rw [if_neg c4] at H
        have c4b0 : decide (x13_1 < (l0_1.length : Int)) = false := decide_eq_false c4
        clear c4
        have H' := Aside0.mk H
        clear H
        have hcz46_0 : wr.cell? ⟨gb167, 0, none⟩ = some (.int .i64 a0_0) := (blk_cell BK167.out 0).trans rfl
        have hcz46_1 : wr.cell? ⟨gb167, 1, none⟩ = some (.slice A0_1 l0_1.length c0_1) := (blk_cell BK167.out 1).trans rfl
        have hcz46_2 : wr.cell? ⟨gb167, 2, none⟩ = some (.slice A0_2 l0_2.length c0_2) := (blk_cell BK167.out 2).trans rfl
        have hcz46_3 : wr.cell? ⟨gb167, 3, none⟩ = some (.slice A0_3 l0_3.length c0_3) := (blk_cell BK167.out 3).trans rfl
        have hcz46_4 : wr.cell? ⟨gb167, 4, none⟩ = some (.slice A0_4 l0_4.length c0_4) := (blk_cell BK167.out 4).trans rfl
        have hcz46_5 : wr.cell? ⟨gb167, 5, none⟩ = some (.int .i64 a0_5) := (blk_cell BK167.out 5).trans rfl
        have hcz46_6 : wr.cell? ⟨gb167, 6, none⟩ = some (.int .i64 a0_6) := (blk_cell BK167.out 6).trans rfl
        have hcz46_7 : wr.cell? ⟨gb167, 7, none⟩ = some (.int .i64 a0_7) := (blk_cell BK167.out 7).trans rfl
        have hcz46_8 : wr.cell? ⟨gb167, 8, none⟩ = some (.int .i64 a0_8) := (blk_cell BK167.out 8).trans rfl
        have hcz46_9 : wr.cell? ⟨gb167, 9, none⟩ = some (.int .i64 a0_9) := (blk_cell BK167.out 9).trans rfl
        have hcz46_10 : wr.cell? ⟨gb167, 10, none⟩ = some (.int .i64 a0_10) := (blk_cell BK167.out 10).trans rfl
        have hcz46_11 : wr.cell? ⟨gb167, 11, none⟩ = some (.int .i64 a0_11) := (blk_cell BK167.out 11).trans rfl
        have hfz46_0 := blk_frozen BK167.out 0
        have hfz46_1 := blk_frozen BK167.out 1
        have hfz46_2 := blk_frozen BK167.out 2
        have hfz46_3 := blk_frozen BK167.out 3
        have hfz46_4 := blk_frozen BK167.out 4
        have hfz46_5 := blk_frozen BK167.out 5
        have hfz46_6 := blk_frozen BK167.out 6
        have hfz46_7 := blk_frozen BK167.out 7
        have hfz46_8 := blk_frozen BK167.out 8
        have hfz46_9 := blk_frozen BK167.out 9
        have hfz46_10 := blk_frozen BK167.out 10
        have hfz46_11 := blk_frozen BK167.out 11
        go_wp2
        go_loopg [58] k1 (fun kq v58 w' => ∃ (x58_2 : Int), v58 = .int .i64 x58_2 ∧ Aside0 (simulate_Config_checkServices.l1 kq l0_1 (l0_1.length : Int) x58_2 a0_0 l0_1 l0_2 l0_3 l0_4 a0_5 a0_6 a0_7 a0_8 a0_9 a0_10 a0_11 = some r) ∧ Aside0 (kq ≤ k1) ∧ Aside0 (w'.heap[gb167]? = some (.cells #[.int .i64 a0_0, (.slice A0_1 l0_1.length c0_1), (.slice A0_2 l0_2.length c0_2), (.slice A0_3 l0_3.length c0_3), (.slice A0_4 l0_4.length c0_4), .int .i64 a0_5, .int .i64 a0_6, .int .i64 a0_7, .int .i64 a0_8, .int .i64 a0_9, .int .i64 a0_10, .int .i64 a0_11] 31 (0, 0))) ∧ Aside0 (Below w.heap.size w w'))
        case atStart => exact ⟨(0), (by first | rfl | (simp; done) | (simp [*]; done)), H', ⟨Nat.le_refl _⟩, ⟨by (with_reducible repeat (first | refine blk_drewN ?_ _ | refine blk_drew ?_ | refine blk_alloc ?_ _)); exact BK167.out⟩, ⟨by repeat (first | (with_reducible first | exact HB.out | apply below_alloc | apply pw_below_drewN | apply below_drew1 | refine below_set ?_ GE167.out) | exact HB.out)⟩⟩
        case round =>
          clear H'
          try clear c1
          try clear p1
          try clear q1
          try clear hx1
          try clear c2
          try clear p2
          try clear c3
          try clear c4
          try clear c4b0
          try clear c5
          try clear c5b0
          try clear c6
          try clear c6b0
          try clear p6
          try clear c8
          try clear c10
          try clear c10b0
          try clear c12
          try clear c16
          try clear p16
          try clear q16
          try clear hx16
          try clear c18
          try clear c23
          try clear c24
          try clear c27
          try clear c28
          try clear c31
          try clear c32
          try clear c35
          try clear c37
          try clear c38
          try clear c38b0
          try clear c38b1
          try clear c39
          try clear c41
          try clear c44
          try clear hcz13_0
          try clear hcz13_1
          try clear hcz13_2
          try clear hcz13_3
          try clear hcz13_4
          try clear hcz13_5
          try clear hcz14_0
          try clear hcz14_1
          try clear hcz14_10
          try clear hcz14_11
          try clear hcz14_2
          try clear hcz14_3
          try clear hcz14_4
          try clear hcz14_5
          try clear hcz14_6
          try clear hcz14_7
          try clear hcz14_8
          try clear hcz14_9
          try clear hcz19_0
          try clear hcz19_1
          try clear hcz19_2
          try clear hcz19_3
          try clear hcz19_4
          try clear hcz19_5
          try clear hcz20_0
          try clear hcz20_1
          try clear hcz20_10
          try clear hcz20_11
          try clear hcz20_2
          try clear hcz20_3
          try clear hcz20_4
          try clear hcz20_5
          try clear hcz20_6
          try clear hcz20_7
          try clear hcz20_8
          try clear hcz20_9
          try clear hcz25_0
          try clear hcz25_1
          try clear hcz25_2
          try clear hcz25_3
          try clear hcz25_4
          try clear hcz25_5
          try clear hcz29_0
          try clear hcz29_1
          try clear hcz29_2
          try clear hcz29_3
          try clear hcz29_4
          try clear hcz29_5
          try clear hcz33_0
          try clear hcz33_1
          try clear hcz33_2
          try clear hcz33_3
          try clear hcz33_4
          try clear hcz33_5
          try clear hcz36_0
          try clear hcz36_1
          try clear hcz36_2
          try clear hcz36_3
          try clear hcz36_4
          try clear hcz36_5
          try clear hcz3_0
          try clear hcz3_1
          try clear hcz3_10
          try clear hcz3_11
          try clear hcz3_2
          try clear hcz3_3
          try clear hcz3_4
          try clear hcz3_5
          try clear hcz3_6
          try clear hcz3_7
          try clear hcz3_8
          try clear hcz3_9
          try clear hcz40_0
          try clear hcz40_1
          try clear hcz40_2
          try clear hcz40_3
          try clear hcz40_4
          try clear hcz40_5
          try clear hcz42_0
          try clear hcz42_1
          try clear hcz42_2
          try clear hcz42_3
          try clear hcz42_4
          try clear hcz42_5
          try clear hcz45_0
          try clear hcz45_1
          try clear hcz45_2
          try clear hcz45_3
          try clear hcz45_4
          try clear hcz45_5
          try clear hcz46_0
          try clear hcz46_1
          try clear hcz46_10
          try clear hcz46_11
          try clear hcz46_2
          try clear hcz46_3
          try clear hcz46_4
          try clear hcz46_5
          try clear hcz46_6
          try clear hcz46_7
          try clear hcz46_8
          try clear hcz46_9
          try clear hfz13_0
          try clear hfz13_1
          try clear hfz13_2
          try clear hfz13_3
          try clear hfz13_4
          try clear hfz13_5
          try clear hfz14_0
          try clear hfz14_1
          try clear hfz14_10
          try clear hfz14_11
          try clear hfz14_2
          try clear hfz14_3
          try clear hfz14_4
          try clear hfz14_5
          try clear hfz14_6
          try clear hfz14_7
          try clear hfz14_8
          try clear hfz14_9
          try clear hfz19_0
          try clear hfz19_1
          try clear hfz19_2
          try clear hfz19_3
          try clear hfz19_4
          try clear hfz19_5
          try clear hfz20_0
          try clear hfz20_1
          try clear hfz20_10
          try clear hfz20_11
          try clear hfz20_2
          try clear hfz20_3
          try clear hfz20_4
          try clear hfz20_5
          try clear hfz20_6
          try clear hfz20_7
          try clear hfz20_8
          try clear hfz20_9
          try clear hfz25_0
          try clear hfz25_1
          try clear hfz25_2
          try clear hfz25_3
          try clear hfz25_4
          try clear hfz25_5
          try clear hfz29_0
          try clear hfz29_1
          try clear hfz29_2
          try clear hfz29_3
          try clear hfz29_4
          try clear hfz29_5
          try clear hfz33_0
          try clear hfz33_1
          try clear hfz33_2
          try clear hfz33_3
          try clear hfz33_4
          try clear hfz33_5
          try clear hfz36_0
          try clear hfz36_1
          try clear hfz36_2
          try clear hfz36_3
          try clear hfz36_4
          try clear hfz36_5
          try clear hfz3_0
          try clear hfz3_1
          try clear hfz3_10
          try clear hfz3_11
          try clear hfz3_2
          try clear hfz3_3
          try clear hfz3_4
          try clear hfz3_5
          try clear hfz3_6
          try clear hfz3_7
          try clear hfz3_8
          try clear hfz3_9
          try clear hfz40_0
          try clear hfz40_1
          try clear hfz40_2
          try clear hfz40_3
          try clear hfz40_4
          try clear hfz40_5
          try clear hfz42_0
          try clear hfz42_1
          try clear hfz42_2
          try clear hfz42_3
          try clear hfz42_4
          try clear hfz42_5
          try clear hfz45_0
          try clear hfz45_1
          try clear hfz45_2
          try clear hfz45_3
          try clear hfz45_4
          try clear hfz45_5
          try clear hfz46_0
          try clear hfz46_1
          try clear hfz46_10
          try clear hfz46_11
          try clear hfz46_2
          try clear hfz46_3
          try clear hfz46_4
          try clear hfz46_5
          try clear hfz46_6
          try clear hfz46_7
          try clear hfz46_8
          try clear hfz46_9
          try clear hx168_0
          try clear hx168_1
          try clear hx168_2
          try clear hx168_3
          try clear hx168_4
          try clear hx168_5
          try clear p1
          try clear p16
          try clear p168
          try clear p2
          try clear q1
          try clear q16
          try clear q168
          obtain ⟨x58_2, rfl, HA, HK2, BK167, HB⟩ := hrel
          cases gk with
          | zero => exact absurd HA.out (by simp [simulate_Config_checkServices.l1])
          | succ k2 =>
            have H := HA.out
            clear HA
            simp only [simulate_Config_checkServices.l1] at H
            by_cases c47 : x58_2 < (l0_1.length : Int)
            · rw [if_pos c47] at H
              have c47b0 : decide (x58_2 < (l0_1.length : Int)) = true := decide_eq_true c47
              clear c47
              by_cases c48 : 0 ≤ x58_2
              · rw [if_pos c48] at H
                have c48b0 : decide (0 ≤ x58_2) = true := decide_eq_true c48
                clear c48
                by_cases c49 : x58_2 < (l0_1.length : Int)
                · rw [if_pos c49] at H
                  have c49b0 : decide (x58_2 < (l0_1.length : Int)) = true := decide_eq_true c49
                  clear c49
                  have H' := Aside0.mk H
                  clear H
                  have p176 : 0 ≤ (x58_2 : Int) := of_decide_eq_true (by first | (with_reducible assumption) | assumption)
                  have q176 : x58_2 < (l0_1.length : Int) := of_decide_eq_true (by first | (with_reducible assumption) | assumption)
                  obtain ⟨ad176, A176_5, c176_5, e176, hx176_0, hx176_1, hx176_2, hx176_3, hx176_4, hx176_5, hl176_5, hi176_5⟩ := at_T64 HR0_1.out x58_2 p176 q176
                  cases e176
                  replace hx176_0 := (HB.out.cell (World.block_lt_of_cell? w _ hx176_0)).trans hx176_0
                  replace hx176_1 := (HB.out.cell (World.block_lt_of_cell? w _ hx176_1)).trans hx176_1
                  replace hx176_2 := (HB.out.cell (World.block_lt_of_cell? w _ hx176_2)).trans hx176_2
                  replace hx176_3 := (HB.out.cell (World.block_lt_of_cell? w _ hx176_3)).trans hx176_3
                  replace hx176_4 := (HB.out.cell (World.block_lt_of_cell? w _ hx176_4)).trans hx176_4
                  replace hx176_5 := (HB.out.cell (World.block_lt_of_cell? w _ hx176_5)).trans hx176_5
                  have HR176_5 := Aside0.mk hi176_5
                  have HC176_5 := Aside0.mk hl176_5
                  clear hi176_5 hl176_5
                  replace p176 := eq_true p176
                  replace q176 := eq_true q176
                  go_wp2_with (first | ((with_reducible refine gate_dst (N := 6) rfl ?_); refine box_event ?hg (N := 6) ?hd (cs := #[.string (⟨#[]⟩ : ByteArray), .int .i64 0, .int .i64 0, .int .i64 0, .int .i64 0, .slice none 0 0]) (t := 64) ?hr ?_; (case hd => rfl); (case hg => rfl); (case hr => first | (go_simp; done) | (go_simp; rfl)); intro gb177 hg w50 hbox hb; have n0_ := Aside0.mk (blk_below (g := gb167) (o := .cells #[.int .i64 a0_0, .slice (some ad176) l0_1.length c0_1, .slice A0_2 l0_2.length c0_2, .slice A0_3 l0_3.length c0_3, .slice A0_4 l0_4.length c0_4, .int .i64 a0_5, .int .i64 a0_6, .int .i64 a0_7, .int .i64 a0_8, .int .i64 a0_9, .int .i64 a0_10, .int .i64 a0_11] 31 (0, 0)) (by (with_reducible repeat (first | refine blk_drewN ?_ _ | refine blk_drew ?_ | refine blk_alloc ?_ _)); exact BK167.out) hb); have n1_ := Aside0.mk (below_step (by repeat (first | (with_reducible first | exact HB.out | apply below_alloc | apply pw_below_drewN | apply below_drew1 | refine below_set ?_ GE167.out) | exact HB.out)) hb); have n2_ := Aside0.mk (hbox); have n3_ := Aside0.mk ((by rw [hg]; exact (below_size (by repeat (first | (with_reducible first | exact HB.out | apply below_alloc | apply pw_below_drewN | apply below_drew1 | refine below_set ?_ GE167.out) | exact HB.out))) : w.heap.size ≤ gb177)); have n4_ := Aside0.mk ((by rw [hg]; exact (below_size (by repeat (first | (with_reducible first | exact HB.out | apply below_alloc | apply pw_below_drewN | apply below_drew1 | refine below_set ?_ GE167.out) | exact HB.out))) : w.heap.size ≤ gb177)); have n5_ := Aside0.mk ((by rw [hg]; exact Nat.ne_of_lt (blk_lt (g := gb167) (o := .cells #[.int .i64 a0_0, .slice (some ad176) l0_1.length c0_1, .slice A0_2 l0_2.length c0_2, .slice A0_3 l0_3.length c0_3, .slice A0_4 l0_4.length c0_4, .int .i64 a0_5, .int .i64 a0_6, .int .i64 a0_7, .int .i64 a0_8, .int .i64 a0_9, .int .i64 a0_10, .int .i64 a0_11] 31 (0, 0)) (by (with_reducible repeat (first | refine blk_drewN ?_ _ | refine blk_drew ?_ | refine blk_alloc ?_ _)); exact BK167.out)) : gb167 ≠ gb177)); have n6_ := Aside0.mk ((by rw [hg]; exact Nat.ne_of_gt (blk_lt (g := gb167) (o := .cells #[.int .i64 a0_0, .slice (some ad176) l0_1.length c0_1, .slice A0_2 l0_2.length c0_2, .slice A0_3 l0_3.length c0_3, .slice A0_4 l0_4.length c0_4, .int .i64 a0_5, .int .i64 a0_6, .int .i64 a0_7, .int .i64 a0_8, .int .i64 a0_9, .int .i64 a0_10, .int .i64 a0_11] 31 (0, 0)) (by (with_reducible repeat (first | refine blk_drewN ?_ _ | refine blk_drew ?_ | refine blk_alloc ?_ _)); exact BK167.out)) : gb177 ≠ gb167)); clear BK167; clear HB; have BK167 := n0_; have HB := n1_; have BK177 := n2_; have GW177 := n3_; have GE177 := n4_; have NB167_177 := n5_; have NB177_167 := n6_; clear n0_ n1_ n2_ n3_ n4_ n5_ n6_; clear hb hbox hg; have hnb51 := NB177_167.out; have hnc51 := NB167_177.out; have hcz52_0 : w50.cell? ⟨gb177, 0, none⟩ = some (.string (⟨#[]⟩ : ByteArray)) := (blk_cell BK177.out 0).trans rfl; have hcz52_1 : w50.cell? ⟨gb177, 1, none⟩ = some (.int .i64 0) := (blk_cell BK177.out 1).trans rfl; have hcz52_2 : w50.cell? ⟨gb177, 2, none⟩ = some (.int .i64 0) := (blk_cell BK177.out 2).trans rfl; have hcz52_3 : w50.cell? ⟨gb177, 3, none⟩ = some (.int .i64 0) := (blk_cell BK177.out 3).trans rfl; have hcz52_4 : w50.cell? ⟨gb177, 4, none⟩ = some (.int .i64 0) := (blk_cell BK177.out 4).trans rfl; have hcz52_5 : w50.cell? ⟨gb177, 5, none⟩ = some (.slice none 0 0) := (blk_cell BK177.out 5).trans rfl; have hfz52_0 := blk_frozen BK177.out 0; have hfz52_1 := blk_frozen BK177.out 1; have hfz52_2 := blk_frozen BK177.out 2; have hfz52_3 := blk_frozen BK177.out 3; have hfz52_4 := blk_frozen BK177.out 4; have hfz52_5 := blk_frozen BK177.out 5))
                  go_loopg [66] k2 (fun kq v66 w' => ∃ (x66_3 : Int), v66 = .int .i64 x66_3 ∧ Aside0 (simulate_Config_checkServices.l2 kq x58_2 l0_1 (l0_1.length : Int) x58_2 ((rd_T64 l0_1 x58_2).f5) (((rd_T64 l0_1 x58_2).f5).length : Int) x66_3 a0_0 l0_1 l0_2 l0_3 l0_4 a0_5 a0_6 a0_7 a0_8 a0_9 a0_10 a0_11 = some r) ∧ Aside0 (kq ≤ k2) ∧ Aside0 (w'.heap[gb167]? = some (.cells #[.int .i64 a0_0, (.slice (some ad176) l0_1.length c0_1), (.slice A0_2 l0_2.length c0_2), (.slice A0_3 l0_3.length c0_3), (.slice A0_4 l0_4.length c0_4), .int .i64 a0_5, .int .i64 a0_6, .int .i64 a0_7, .int .i64 a0_8, .int .i64 a0_9, .int .i64 a0_10, .int .i64 a0_11] 31 (0, 0))) ∧ Aside0 (w'.heap[gb177]? = some (.cells #[.string ((rd_T64 l0_1 x58_2).f0), .int .i64 ((rd_T64 l0_1 x58_2).f1), .int .i64 ((rd_T64 l0_1 x58_2).f2), .int .i64 ((rd_T64 l0_1 x58_2).f3), .int .i64 ((rd_T64 l0_1 x58_2).f4), (.slice A176_5 ((rd_T64 l0_1 x58_2).f5).length c176_5)] 64 (0, 0))) ∧ Aside0 (Below w.heap.size w w'))
                  case atStart => exact ⟨(0), (by first | rfl | (simp; done) | (simp [*]; done)), H', ⟨Nat.le_refl _⟩, ⟨by (with_reducible repeat (first | refine blk_drewN ?_ _ | refine blk_drew ?_ | refine blk_alloc ?_ _)); refine blk_far ?_ NB167_177.out _; (with_reducible repeat (first | refine blk_drewN ?_ _ | refine blk_drew ?_ | refine blk_alloc ?_ _)); refine blk_far ?_ NB167_177.out _; (with_reducible repeat (first | refine blk_drewN ?_ _ | refine blk_drew ?_ | refine blk_alloc ?_ _)); refine blk_far ?_ NB167_177.out _; (with_reducible repeat (first | refine blk_drewN ?_ _ | refine blk_drew ?_ | refine blk_alloc ?_ _)); refine blk_far ?_ NB167_177.out _; (with_reducible repeat (first | refine blk_drewN ?_ _ | refine blk_drew ?_ | refine blk_alloc ?_ _)); refine blk_far ?_ NB167_177.out _; (with_reducible repeat (first | refine blk_drewN ?_ _ | refine blk_drew ?_ | refine blk_alloc ?_ _)); refine blk_far ?_ NB167_177.out _; (with_reducible repeat (first | refine blk_drewN ?_ _ | refine blk_drew ?_ | refine blk_alloc ?_ _)); exact BK167.out⟩, ⟨by (with_reducible repeat (first | refine blk_drewN ?_ _ | refine blk_drew ?_ | refine blk_alloc ?_ _)); refine blk_put (cs := #[.string ((rd_T64 l0_1 x58_2).f0), .int .i64 ((rd_T64 l0_1 x58_2).f1), .int .i64 ((rd_T64 l0_1 x58_2).f2), .int .i64 ((rd_T64 l0_1 x58_2).f3), .int .i64 ((rd_T64 l0_1 x58_2).f4), .slice none 0 0]) ?_ 5 _ rfl; (with_reducible repeat (first | refine blk_drewN ?_ _ | refine blk_drew ?_ | refine blk_alloc ?_ _)); refine blk_put (cs := #[.string ((rd_T64 l0_1 x58_2).f0), .int .i64 ((rd_T64 l0_1 x58_2).f1), .int .i64 ((rd_T64 l0_1 x58_2).f2), .int .i64 ((rd_T64 l0_1 x58_2).f3), .int .i64 0, .slice none 0 0]) ?_ 4 _ rfl; (with_reducible repeat (first | refine blk_drewN ?_ _ | refine blk_drew ?_ | refine blk_alloc ?_ _)); refine blk_put (cs := #[.string ((rd_T64 l0_1 x58_2).f0), .int .i64 ((rd_T64 l0_1 x58_2).f1), .int .i64 ((rd_T64 l0_1 x58_2).f2), .int .i64 0, .int .i64 0, .slice none 0 0]) ?_ 3 _ rfl; (with_reducible repeat (first | refine blk_drewN ?_ _ | refine blk_drew ?_ | refine blk_alloc ?_ _)); refine blk_put (cs := #[.string ((rd_T64 l0_1 x58_2).f0), .int .i64 ((rd_T64 l0_1 x58_2).f1), .int .i64 0, .int .i64 0, .int .i64 0, .slice none 0 0]) ?_ 2 _ rfl; (with_reducible repeat (first | refine blk_drewN ?_ _ | refine blk_drew ?_ | refine blk_alloc ?_ _)); refine blk_put (cs := #[.string ((rd_T64 l0_1 x58_2).f0), .int .i64 0, .int .i64 0, .int .i64 0, .int .i64 0, .slice none 0 0]) ?_ 1 _ rfl; (with_reducible repeat (first | refine blk_drewN ?_ _ | refine blk_drew ?_ | refine blk_alloc ?_ _)); refine blk_put (cs := #[.string (⟨#[]⟩ : ByteArray), .int .i64 0, .int .i64 0, .int .i64 0, .int .i64 0, .slice none 0 0]) ?_ 0 _ rfl; (with_reducible repeat (first | refine blk_drewN ?_ _ | refine blk_drew ?_ | refine blk_alloc ?_ _)); exact BK177.out⟩, ⟨by repeat (first | (with_reducible first | exact HB.out | apply below_alloc | apply pw_below_drewN | apply below_drew1 | refine below_set ?_ GE167.out | refine below_set ?_ GE177.out) | exact HB.out)⟩⟩
                  case round =>
                    clear H'
                    try clear c1
                    try clear p1
                    try clear q1
                    try clear hx1
                    try clear c2
                    try clear p2
                    try clear c3
                    try clear c4
                    try clear c4b0
                    try clear c5
                    try clear c5b0
                    try clear c6
                    try clear c6b0
                    try clear p6
                    try clear c8
                    try clear c10
                    try clear c10b0
                    try clear c12
                    try clear c16
                    try clear p16
                    try clear q16
                    try clear hx16
                    try clear c17
                    try clear p17
                    try clear q17
                    try clear hx17
                    try clear c18
                    try clear c23
                    try clear c24
                    try clear c27
                    try clear c28
                    try clear c31
                    try clear c32
                    try clear c35
                    try clear c37
                    try clear c38
                    try clear c38b0
                    try clear c38b1
                    try clear c39
                    try clear c41
                    try clear c44
                    try clear c47
                    try clear c47b0
                    try clear c48
                    try clear c48b0
                    try clear c49
                    try clear c49b0
                    try clear c51
                    try clear hcz13_0
                    try clear hcz13_1
                    try clear hcz13_2
                    try clear hcz13_3
                    try clear hcz13_4
                    try clear hcz13_5
                    try clear hcz14_0
                    try clear hcz14_1
                    try clear hcz14_10
                    try clear hcz14_11
                    try clear hcz14_2
                    try clear hcz14_3
                    try clear hcz14_4
                    try clear hcz14_5
                    try clear hcz14_6
                    try clear hcz14_7
                    try clear hcz14_8
                    try clear hcz14_9
                    try clear hcz19_0
                    try clear hcz19_1
                    try clear hcz19_2
                    try clear hcz19_3
                    try clear hcz19_4
                    try clear hcz19_5
                    try clear hcz20_0
                    try clear hcz20_1
                    try clear hcz20_10
                    try clear hcz20_11
                    try clear hcz20_2
                    try clear hcz20_3
                    try clear hcz20_4
                    try clear hcz20_5
                    try clear hcz20_6
                    try clear hcz20_7
                    try clear hcz20_8
                    try clear hcz20_9
                    try clear hcz25_0
                    try clear hcz25_1
                    try clear hcz25_2
                    try clear hcz25_3
                    try clear hcz25_4
                    try clear hcz25_5
                    try clear hcz29_0
                    try clear hcz29_1
                    try clear hcz29_2
                    try clear hcz29_3
                    try clear hcz29_4
                    try clear hcz29_5
                    try clear hcz33_0
                    try clear hcz33_1
                    try clear hcz33_2
                    try clear hcz33_3
                    try clear hcz33_4
                    try clear hcz33_5
                    try clear hcz36_0
                    try clear hcz36_1
                    try clear hcz36_2
                    try clear hcz36_3
                    try clear hcz36_4
                    try clear hcz36_5
                    try clear hcz3_0
                    try clear hcz3_1
                    try clear hcz3_10
                    try clear hcz3_11
                    try clear hcz3_2
                    try clear hcz3_3
                    try clear hcz3_4
                    try clear hcz3_5
                    try clear hcz3_6
                    try clear hcz3_7
                    try clear hcz3_8
                    try clear hcz3_9
                    try clear hcz40_0
                    try clear hcz40_1
                    try clear hcz40_2
                    try clear hcz40_3
                    try clear hcz40_4
                    try clear hcz40_5
                    try clear hcz42_0
                    try clear hcz42_1
                    try clear hcz42_2
                    try clear hcz42_3
                    try clear hcz42_4
                    try clear hcz42_5
                    try clear hcz45_0
                    try clear hcz45_1
                    try clear hcz45_2
                    try clear hcz45_3
                    try clear hcz45_4
                    try clear hcz45_5
                    try clear hcz46_0
                    try clear hcz46_1
                    try clear hcz46_10
                    try clear hcz46_11
                    try clear hcz46_2
                    try clear hcz46_3
                    try clear hcz46_4
                    try clear hcz46_5
                    try clear hcz46_6
                    try clear hcz46_7
                    try clear hcz46_8
                    try clear hcz46_9
                    try clear hcz52_0
                    try clear hcz52_1
                    try clear hcz52_2
                    try clear hcz52_3
                    try clear hcz52_4
                    try clear hcz52_5
                    try clear hfz13_0
                    try clear hfz13_1
                    try clear hfz13_2
                    try clear hfz13_3
                    try clear hfz13_4
                    try clear hfz13_5
                    try clear hfz14_0
                    try clear hfz14_1
                    try clear hfz14_10
                    try clear hfz14_11
                    try clear hfz14_2
                    try clear hfz14_3
                    try clear hfz14_4
                    try clear hfz14_5
                    try clear hfz14_6
                    try clear hfz14_7
                    try clear hfz14_8
                    try clear hfz14_9
                    try clear hfz19_0
                    try clear hfz19_1
                    try clear hfz19_2
                    try clear hfz19_3
                    try clear hfz19_4
                    try clear hfz19_5
                    try clear hfz20_0
                    try clear hfz20_1
                    try clear hfz20_10
                    try clear hfz20_11
                    try clear hfz20_2
                    try clear hfz20_3
                    try clear hfz20_4
                    try clear hfz20_5
                    try clear hfz20_6
                    try clear hfz20_7
                    try clear hfz20_8
                    try clear hfz20_9
                    try clear hfz25_0
                    try clear hfz25_1
                    try clear hfz25_2
                    try clear hfz25_3
                    try clear hfz25_4
                    try clear hfz25_5
                    try clear hfz29_0
                    try clear hfz29_1
                    try clear hfz29_2
                    try clear hfz29_3
                    try clear hfz29_4
                    try clear hfz29_5
                    try clear hfz33_0
                    try clear hfz33_1
                    try clear hfz33_2
                    try clear hfz33_3
                    try clear hfz33_4
                    try clear hfz33_5
                    try clear hfz36_0
                    try clear hfz36_1
                    try clear hfz36_2
                    try clear hfz36_3
                    try clear hfz36_4
                    try clear hfz36_5
                    try clear hfz3_0
                    try clear hfz3_1
                    try clear hfz3_10
                    try clear hfz3_11
                    try clear hfz3_2
                    try clear hfz3_3
                    try clear hfz3_4
                    try clear hfz3_5
                    try clear hfz3_6
                    try clear hfz3_7
                    try clear hfz3_8
                    try clear hfz3_9
                    try clear hfz40_0
                    try clear hfz40_1
                    try clear hfz40_2
                    try clear hfz40_3
                    try clear hfz40_4
                    try clear hfz40_5
                    try clear hfz42_0
                    try clear hfz42_1
                    try clear hfz42_2
                    try clear hfz42_3
                    try clear hfz42_4
                    try clear hfz42_5
                    try clear hfz45_0
                    try clear hfz45_1
                    try clear hfz45_2
                    try clear hfz45_3
                    try clear hfz45_4
                    try clear hfz45_5
                    try clear hfz46_0
                    try clear hfz46_1
                    try clear hfz46_10
                    try clear hfz46_11
                    try clear hfz46_2
                    try clear hfz46_3
                    try clear hfz46_4
                    try clear hfz46_5
                    try clear hfz46_6
                    try clear hfz46_7
                    try clear hfz46_8
                    try clear hfz46_9
                    try clear hfz52_0
                    try clear hfz52_1
                    try clear hfz52_2
                    try clear hfz52_3
                    try clear hfz52_4
                    try clear hfz52_5
                    try clear hx168_0
                    try clear hx168_1
                    try clear hx168_2
                    try clear hx168_3
                    try clear hx168_4
                    try clear hx168_5
                    try clear hx176_0
                    try clear hx176_1
                    try clear hx176_2
                    try clear hx176_3
                    try clear hx176_4
                    try clear hx176_5
                    try clear p1
                    try clear p16
                    try clear p168
                    try clear p176
                    try clear p2
                    try clear p6
                    try clear q1
                    try clear q16
                    try clear q168
                    try clear q176
                    obtain ⟨x66_3, rfl, HA, HK3, BK167, BK177, HB⟩ := hrel
                    cases gk with
                    | zero => exact absurd HA.out (by simp [simulate_Config_checkServices.l2])
                    | succ k3 =>
                      have H := HA.out
                      clear HA
                      simp only [simulate_Config_checkServices.l2] at H
                      by_cases c53 : x66_3 < (((rd_T64 l0_1 x58_2).f5).length : Int)
                      · rw [if_pos c53] at H
                        have c53b0 : decide (x66_3 < (((rd_T64 l0_1 x58_2).f5).length : Int)) = true := decide_eq_true c53
                        clear c53
                        by_cases c54 : 0 ≤ x66_3
                        · rw [if_pos c54] at H
                          have c54b0 : decide (0 ≤ x66_3) = true := decide_eq_true c54
                          clear c54
                          by_cases c55 : x66_3 < (((rd_T64 l0_1 x58_2).f5).length : Int)
                          · rw [if_pos c55] at H
                            have c55b0 : decide (x66_3 < (((rd_T64 l0_1 x58_2).f5).length : Int)) = true := decide_eq_true c55
                            clear c55
                            replace H := Option.bind_eq_some_iff.mp H
                            obtain ⟨t179, A560, H⟩ := H
                            replace H : (if t179 < 0 then (some 16) else (if t179 ≤ x58_2 then (some 8) else (simulate_Config_checkServices.l2 k3 x58_2 l0_1 (l0_1.length : Int) x58_2 ((rd_T64 l0_1 x58_2).f5) (((rd_T64 l0_1 x58_2).f5).length : Int) (wrap64 (x66_3 + 1)) a0_0 l0_1 l0_2 l0_3 l0_4 a0_5 a0_6 a0_7 a0_8 a0_9 a0_10 a0_11))) = some r := H
                            have A56 := Aside0.mk A560
                            clear A560
                            by_cases c57 : t179 < 0
                            · rw [if_pos c57] at H
                              have c57b0 : decide (t179 < 0) = true := decide_eq_true c57
                              clear c57
                              obtain rfl := Option.some.inj H
                              have p178 : 0 ≤ (x66_3 : Int) := of_decide_eq_true (by first | (with_reducible assumption) | assumption)
                              have q178 : x66_3 < (((rd_T64 l0_1 x58_2).f5).length : Int) := of_decide_eq_true (by first | (with_reducible assumption) | assumption)
                              obtain ⟨ad178, e178, hx178_0⟩ := Kd.at_string HR176_5.out x66_3 p178 q178
                              cases e178
                              replace hx178_0 := (HB.out.cell (World.block_lt_of_cell? w _ hx178_0)).trans hx178_0
                              replace p178 := eq_true p178
                              replace q178 := eq_true q178
                              have hnb58 := NB167_177.out
                              have hnc58 := NB177_167.out
                              have hcz59_0 : wr.cell? ⟨gb167, 0, none⟩ = some (.int .i64 a0_0) := (blk_cell BK167.out 0).trans rfl
                              have hcz59_1 : wr.cell? ⟨gb167, 1, none⟩ = some (.slice (some ad176) l0_1.length c0_1) := (blk_cell BK167.out 1).trans rfl
                              have hcz59_2 : wr.cell? ⟨gb167, 2, none⟩ = some (.slice A0_2 l0_2.length c0_2) := (blk_cell BK167.out 2).trans rfl
                              have hcz59_3 : wr.cell? ⟨gb167, 3, none⟩ = some (.slice A0_3 l0_3.length c0_3) := (blk_cell BK167.out 3).trans rfl
                              have hcz59_4 : wr.cell? ⟨gb167, 4, none⟩ = some (.slice A0_4 l0_4.length c0_4) := (blk_cell BK167.out 4).trans rfl
                              have hcz59_5 : wr.cell? ⟨gb167, 5, none⟩ = some (.int .i64 a0_5) := (blk_cell BK167.out 5).trans rfl
                              have hcz59_6 : wr.cell? ⟨gb167, 6, none⟩ = some (.int .i64 a0_6) := (blk_cell BK167.out 6).trans rfl
                              have hcz59_7 : wr.cell? ⟨gb167, 7, none⟩ = some (.int .i64 a0_7) := (blk_cell BK167.out 7).trans rfl
                              have hcz59_8 : wr.cell? ⟨gb167, 8, none⟩ = some (.int .i64 a0_8) := (blk_cell BK167.out 8).trans rfl
                              have hcz59_9 : wr.cell? ⟨gb167, 9, none⟩ = some (.int .i64 a0_9) := (blk_cell BK167.out 9).trans rfl
                              have hcz59_10 : wr.cell? ⟨gb167, 10, none⟩ = some (.int .i64 a0_10) := (blk_cell BK167.out 10).trans rfl
                              have hcz59_11 : wr.cell? ⟨gb167, 11, none⟩ = some (.int .i64 a0_11) := (blk_cell BK167.out 11).trans rfl
                              have hfz59_0 := blk_frozen BK167.out 0
                              have hfz59_1 := blk_frozen BK167.out 1
                              have hfz59_2 := blk_frozen BK167.out 2
                              have hfz59_3 := blk_frozen BK167.out 3
                              have hfz59_4 := blk_frozen BK167.out 4
                              have hfz59_5 := blk_frozen BK167.out 5
                              have hfz59_6 := blk_frozen BK167.out 6
                              have hfz59_7 := blk_frozen BK167.out 7
                              have hfz59_8 := blk_frozen BK167.out 8
                              have hfz59_9 := blk_frozen BK167.out 9
                              have hfz59_10 := blk_frozen BK167.out 10
                              have hfz59_11 := blk_frozen BK167.out 11
                              go_wp2_with (first | ((with_reducible refine gate_callee (f := 80) rfl ?_); refine goesL_ (some 72) rfl rfl Try.func80 (by kernel_rfl) rfl #[.agg #[.int .i64 a0_0, .slice (some ad176) l0_1.length c0_1, .slice A0_2 l0_2.length c0_2, .slice A0_3 l0_3.length c0_3, .slice A0_4 l0_4.length c0_4, .int .i64 a0_5, .int .i64 a0_6, .int .i64 a0_7, .int .i64 a0_8, .int .i64 a0_9, .int .i64 a0_10, .int .i64 a0_11], .string (rdOf ByteArray.empty ((rd_T64 l0_1 x58_2).f5) x66_3)] rfl (by (try simp only [List.map_toArray, List.map_cons, List.map_nil]); first | done | rfl | (simp only [List.length_drop, List.length_take]; rfl)) ?_; (with_reducible refine (simulate_Config_index.calls a0_0 _ _ l0_1 _ _ l0_2 _ _ l0_3 _ _ l0_4 a0_5 a0_6 a0_7 a0_8 a0_9 a0_10 a0_11 (rdOf ByteArray.empty ((rd_T64 l0_1 x58_2).f5) x66_3) t179 _ ?side1 ?side2 ?side3 ?side4 ?side5 ?side6 ?side7 ?side8 A56.out).mono ?_); (case side1 => repeat (first | exact (Kd.C_below HR0_1.out HB.out) | (with_reducible refine Kd.C_alloc ?_ _) | (with_reducible refine Kd.C_drewN ?_ _) | (with_reducible refine Kd.C_drew ?_))); (case side2 => exact HC0_1.out); (case side3 => repeat (first | exact (Kd.C_below HR0_2.out HB.out) | (with_reducible refine Kd.C_alloc ?_ _) | (with_reducible refine Kd.C_drewN ?_ _) | (with_reducible refine Kd.C_drew ?_))); (case side4 => exact HC0_2.out); (case side5 => repeat (first | exact (Kd.C_below HR0_3.out HB.out) | (with_reducible refine Kd.C_alloc ?_ _) | (with_reducible refine Kd.C_drewN ?_ _) | (with_reducible refine Kd.C_drew ?_))); (case side6 => exact HC0_3.out); (case side7 => repeat (first | exact (Kd.C_below HR0_4.out HB.out) | (with_reducible refine Kd.C_alloc ?_ _) | (with_reducible refine Kd.C_drewN ?_ _) | (with_reducible refine Kd.C_drew ?_))); (case side8 => exact HC0_4.out); rintro e w60 ⟨rfl, hb⟩; refine ⟨_, rfl, ?_⟩; have n0_ := Aside0.mk (blk_below (g := gb167) (o := .cells #[.int .i64 a0_0, .slice (some ad176) l0_1.length c0_1, .slice A0_2 l0_2.length c0_2, .slice A0_3 l0_3.length c0_3, .slice A0_4 l0_4.length c0_4, .int .i64 a0_5, .int .i64 a0_6, .int .i64 a0_7, .int .i64 a0_8, .int .i64 a0_9, .int .i64 a0_10, .int .i64 a0_11] 31 (0, 0)) (by (with_reducible repeat (first | refine blk_drewN ?_ _ | refine blk_drew ?_ | refine blk_alloc ?_ _)); exact BK167.out) hb); have n1_ := Aside0.mk (blk_below (g := gb177) (o := .cells #[.string ((rd_T64 l0_1 x58_2).f0), .int .i64 ((rd_T64 l0_1 x58_2).f1), .int .i64 ((rd_T64 l0_1 x58_2).f2), .int .i64 ((rd_T64 l0_1 x58_2).f3), .int .i64 ((rd_T64 l0_1 x58_2).f4), .slice (some ad178) ((rd_T64 l0_1 x58_2).f5).length c176_5] 64 (0, 0)) (by (with_reducible repeat (first | refine blk_drewN ?_ _ | refine blk_drew ?_ | refine blk_alloc ?_ _)); exact BK177.out) hb); have n2_ := Aside0.mk (below_step (by repeat (first | (with_reducible first | exact HB.out | apply below_alloc | apply pw_below_drewN | apply below_drew1 | refine below_set ?_ GE167.out | refine below_set ?_ GE177.out) | exact HB.out)) hb); clear BK167; clear BK177; clear HB; have BK167 := n0_; have BK177 := n1_; have HB := n2_; clear n0_ n1_ n2_; (try clear hb); (try clear hb2); (try clear hk); (try clear hi)))
                              go_ret
                              exact ⟨by first | rfl | (simp [errW_none, errW_some] <;> rfl) | (simp [*, errW_none, errW_some] <;> rfl), by repeat (first | (with_reducible first | exact HB.out | apply below_alloc | apply pw_below_drewN | apply below_drew1 | refine below_set ?_ GE167.out | refine below_set ?_ GE177.out) | exact HB.out)⟩
                            · rw [if_neg c57] at H
                              have c57b0 : decide (t179 < 0) = false := decide_eq_false c57
                              clear c57
                              by_cases c61 : t179 ≤ x58_2
                              · rw [if_pos c61] at H
                                have c61b0 : decide (t179 ≤ x58_2) = true := decide_eq_true c61
                                clear c61
                                obtain rfl := Option.some.inj H
                                have p178 : 0 ≤ (x66_3 : Int) := of_decide_eq_true (by first | (with_reducible assumption) | assumption)
                                have q178 : x66_3 < (((rd_T64 l0_1 x58_2).f5).length : Int) := of_decide_eq_true (by first | (with_reducible assumption) | assumption)
                                obtain ⟨ad178, e178, hx178_0⟩ := Kd.at_string HR176_5.out x66_3 p178 q178
                                cases e178
                                replace hx178_0 := (HB.out.cell (World.block_lt_of_cell? w _ hx178_0)).trans hx178_0
                                replace p178 := eq_true p178
                                replace q178 := eq_true q178
                                have hnb62 := NB167_177.out
                                have hnc62 := NB177_167.out
                                have hcz63_0 : wr.cell? ⟨gb167, 0, none⟩ = some (.int .i64 a0_0) := (blk_cell BK167.out 0).trans rfl
                                have hcz63_1 : wr.cell? ⟨gb167, 1, none⟩ = some (.slice (some ad176) l0_1.length c0_1) := (blk_cell BK167.out 1).trans rfl
                                have hcz63_2 : wr.cell? ⟨gb167, 2, none⟩ = some (.slice A0_2 l0_2.length c0_2) := (blk_cell BK167.out 2).trans rfl
                                have hcz63_3 : wr.cell? ⟨gb167, 3, none⟩ = some (.slice A0_3 l0_3.length c0_3) := (blk_cell BK167.out 3).trans rfl
                                have hcz63_4 : wr.cell? ⟨gb167, 4, none⟩ = some (.slice A0_4 l0_4.length c0_4) := (blk_cell BK167.out 4).trans rfl
                                have hcz63_5 : wr.cell? ⟨gb167, 5, none⟩ = some (.int .i64 a0_5) := (blk_cell BK167.out 5).trans rfl
                                have hcz63_6 : wr.cell? ⟨gb167, 6, none⟩ = some (.int .i64 a0_6) := (blk_cell BK167.out 6).trans rfl
                                have hcz63_7 : wr.cell? ⟨gb167, 7, none⟩ = some (.int .i64 a0_7) := (blk_cell BK167.out 7).trans rfl
                                have hcz63_8 : wr.cell? ⟨gb167, 8, none⟩ = some (.int .i64 a0_8) := (blk_cell BK167.out 8).trans rfl
                                have hcz63_9 : wr.cell? ⟨gb167, 9, none⟩ = some (.int .i64 a0_9) := (blk_cell BK167.out 9).trans rfl
                                have hcz63_10 : wr.cell? ⟨gb167, 10, none⟩ = some (.int .i64 a0_10) := (blk_cell BK167.out 10).trans rfl
                                have hcz63_11 : wr.cell? ⟨gb167, 11, none⟩ = some (.int .i64 a0_11) := (blk_cell BK167.out 11).trans rfl
                                have hfz63_0 := blk_frozen BK167.out 0
                                have hfz63_1 := blk_frozen BK167.out 1
                                have hfz63_2 := blk_frozen BK167.out 2
                                have hfz63_3 := blk_frozen BK167.out 3
                                have hfz63_4 := blk_frozen BK167.out 4
                                have hfz63_5 := blk_frozen BK167.out 5
                                have hfz63_6 := blk_frozen BK167.out 6
                                have hfz63_7 := blk_frozen BK167.out 7
                                have hfz63_8 := blk_frozen BK167.out 8
                                have hfz63_9 := blk_frozen BK167.out 9
                                have hfz63_10 := blk_frozen BK167.out 10
                                have hfz63_11 := blk_frozen BK167.out 11
                                go_wp2_with (first | ((with_reducible refine gate_callee (f := 80) rfl ?_); refine goesL_ (some 72) rfl rfl Try.func80 (by kernel_rfl) rfl #[.agg #[.int .i64 a0_0, .slice (some ad176) l0_1.length c0_1, .slice A0_2 l0_2.length c0_2, .slice A0_3 l0_3.length c0_3, .slice A0_4 l0_4.length c0_4, .int .i64 a0_5, .int .i64 a0_6, .int .i64 a0_7, .int .i64 a0_8, .int .i64 a0_9, .int .i64 a0_10, .int .i64 a0_11], .string (rdOf ByteArray.empty ((rd_T64 l0_1 x58_2).f5) x66_3)] rfl (by (try simp only [List.map_toArray, List.map_cons, List.map_nil]); first | done | rfl | (simp only [List.length_drop, List.length_take]; rfl)) ?_; (with_reducible refine (simulate_Config_index.calls a0_0 _ _ l0_1 _ _ l0_2 _ _ l0_3 _ _ l0_4 a0_5 a0_6 a0_7 a0_8 a0_9 a0_10 a0_11 (rdOf ByteArray.empty ((rd_T64 l0_1 x58_2).f5) x66_3) t179 _ ?side1 ?side2 ?side3 ?side4 ?side5 ?side6 ?side7 ?side8 A56.out).mono ?_); (case side1 => repeat (first | exact (Kd.C_below HR0_1.out HB.out) | (with_reducible refine Kd.C_alloc ?_ _) | (with_reducible refine Kd.C_drewN ?_ _) | (with_reducible refine Kd.C_drew ?_))); (case side2 => exact HC0_1.out); (case side3 => repeat (first | exact (Kd.C_below HR0_2.out HB.out) | (with_reducible refine Kd.C_alloc ?_ _) | (with_reducible refine Kd.C_drewN ?_ _) | (with_reducible refine Kd.C_drew ?_))); (case side4 => exact HC0_2.out); (case side5 => repeat (first | exact (Kd.C_below HR0_3.out HB.out) | (with_reducible refine Kd.C_alloc ?_ _) | (with_reducible refine Kd.C_drewN ?_ _) | (with_reducible refine Kd.C_drew ?_))); (case side6 => exact HC0_3.out); (case side7 => repeat (first | exact (Kd.C_below HR0_4.out HB.out) | (with_reducible refine Kd.C_alloc ?_ _) | (with_reducible refine Kd.C_drewN ?_ _) | (with_reducible refine Kd.C_drew ?_))); (case side8 => exact HC0_4.out); rintro e w64 ⟨rfl, hb⟩; refine ⟨_, rfl, ?_⟩; have n0_ := Aside0.mk (blk_below (g := gb167) (o := .cells #[.int .i64 a0_0, .slice (some ad176) l0_1.length c0_1, .slice A0_2 l0_2.length c0_2, .slice A0_3 l0_3.length c0_3, .slice A0_4 l0_4.length c0_4, .int .i64 a0_5, .int .i64 a0_6, .int .i64 a0_7, .int .i64 a0_8, .int .i64 a0_9, .int .i64 a0_10, .int .i64 a0_11] 31 (0, 0)) (by (with_reducible repeat (first | refine blk_drewN ?_ _ | refine blk_drew ?_ | refine blk_alloc ?_ _)); exact BK167.out) hb); have n1_ := Aside0.mk (blk_below (g := gb177) (o := .cells #[.string ((rd_T64 l0_1 x58_2).f0), .int .i64 ((rd_T64 l0_1 x58_2).f1), .int .i64 ((rd_T64 l0_1 x58_2).f2), .int .i64 ((rd_T64 l0_1 x58_2).f3), .int .i64 ((rd_T64 l0_1 x58_2).f4), .slice (some ad178) ((rd_T64 l0_1 x58_2).f5).length c176_5] 64 (0, 0)) (by (with_reducible repeat (first | refine blk_drewN ?_ _ | refine blk_drew ?_ | refine blk_alloc ?_ _)); exact BK177.out) hb); have n2_ := Aside0.mk (below_step (by repeat (first | (with_reducible first | exact HB.out | apply below_alloc | apply pw_below_drewN | apply below_drew1 | refine below_set ?_ GE167.out | refine below_set ?_ GE177.out) | exact HB.out)) hb); clear BK167; clear BK177; clear HB; have BK167 := n0_; have BK177 := n1_; have HB := n2_; clear n0_ n1_ n2_; (try clear hb); (try clear hb2); (try clear hk); (try clear hi)))
                                go_ret
                                exact ⟨by first | rfl | (simp [errW_none, errW_some] <;> rfl) | (simp [*, errW_none, errW_some] <;> rfl), by repeat (first | (with_reducible first | exact HB.out | apply below_alloc | apply pw_below_drewN | apply below_drew1 | refine below_set ?_ GE167.out | refine below_set ?_ GE177.out) | exact HB.out)⟩
                              · rw [if_neg c61] at H
                                have c61b0 : decide (t179 ≤ x58_2) = false := decide_eq_false c61
                                clear c61
                                have H' := Aside0.mk H
                                clear H
                                have p178 : 0 ≤ (x66_3 : Int) := of_decide_eq_true (by first | (with_reducible assumption) | assumption)
                                have q178 : x66_3 < (((rd_T64 l0_1 x58_2).f5).length : Int) := of_decide_eq_true (by first | (with_reducible assumption) | assumption)
                                obtain ⟨ad178, e178, hx178_0⟩ := Kd.at_string HR176_5.out x66_3 p178 q178
                                cases e178
                                replace hx178_0 := (HB.out.cell (World.block_lt_of_cell? w _ hx178_0)).trans hx178_0
                                replace p178 := eq_true p178
                                replace q178 := eq_true q178
                                have hnb65 := NB167_177.out
                                have hnc65 := NB177_167.out
                                have hcz66_0 : wr.cell? ⟨gb167, 0, none⟩ = some (.int .i64 a0_0) := (blk_cell BK167.out 0).trans rfl
                                have hcz66_1 : wr.cell? ⟨gb167, 1, none⟩ = some (.slice (some ad176) l0_1.length c0_1) := (blk_cell BK167.out 1).trans rfl
                                have hcz66_2 : wr.cell? ⟨gb167, 2, none⟩ = some (.slice A0_2 l0_2.length c0_2) := (blk_cell BK167.out 2).trans rfl
                                have hcz66_3 : wr.cell? ⟨gb167, 3, none⟩ = some (.slice A0_3 l0_3.length c0_3) := (blk_cell BK167.out 3).trans rfl
                                have hcz66_4 : wr.cell? ⟨gb167, 4, none⟩ = some (.slice A0_4 l0_4.length c0_4) := (blk_cell BK167.out 4).trans rfl
                                have hcz66_5 : wr.cell? ⟨gb167, 5, none⟩ = some (.int .i64 a0_5) := (blk_cell BK167.out 5).trans rfl
                                have hcz66_6 : wr.cell? ⟨gb167, 6, none⟩ = some (.int .i64 a0_6) := (blk_cell BK167.out 6).trans rfl
                                have hcz66_7 : wr.cell? ⟨gb167, 7, none⟩ = some (.int .i64 a0_7) := (blk_cell BK167.out 7).trans rfl
                                have hcz66_8 : wr.cell? ⟨gb167, 8, none⟩ = some (.int .i64 a0_8) := (blk_cell BK167.out 8).trans rfl
                                have hcz66_9 : wr.cell? ⟨gb167, 9, none⟩ = some (.int .i64 a0_9) := (blk_cell BK167.out 9).trans rfl
                                have hcz66_10 : wr.cell? ⟨gb167, 10, none⟩ = some (.int .i64 a0_10) := (blk_cell BK167.out 10).trans rfl
                                have hcz66_11 : wr.cell? ⟨gb167, 11, none⟩ = some (.int .i64 a0_11) := (blk_cell BK167.out 11).trans rfl
                                have hfz66_0 := blk_frozen BK167.out 0
                                have hfz66_1 := blk_frozen BK167.out 1
                                have hfz66_2 := blk_frozen BK167.out 2
                                have hfz66_3 := blk_frozen BK167.out 3
                                have hfz66_4 := blk_frozen BK167.out 4
                                have hfz66_5 := blk_frozen BK167.out 5
                                have hfz66_6 := blk_frozen BK167.out 6
                                have hfz66_7 := blk_frozen BK167.out 7
                                have hfz66_8 := blk_frozen BK167.out 8
                                have hfz66_9 := blk_frozen BK167.out 9
                                have hfz66_10 := blk_frozen BK167.out 10
                                have hfz66_11 := blk_frozen BK167.out 11
                                go_wp2_with (first | ((with_reducible refine gate_callee (f := 80) rfl ?_); refine goesL_ (some 72) rfl rfl Try.func80 (by kernel_rfl) rfl #[.agg #[.int .i64 a0_0, .slice (some ad176) l0_1.length c0_1, .slice A0_2 l0_2.length c0_2, .slice A0_3 l0_3.length c0_3, .slice A0_4 l0_4.length c0_4, .int .i64 a0_5, .int .i64 a0_6, .int .i64 a0_7, .int .i64 a0_8, .int .i64 a0_9, .int .i64 a0_10, .int .i64 a0_11], .string (rdOf ByteArray.empty ((rd_T64 l0_1 x58_2).f5) x66_3)] rfl (by (try simp only [List.map_toArray, List.map_cons, List.map_nil]); first | done | rfl | (simp only [List.length_drop, List.length_take]; rfl)) ?_; (with_reducible refine (simulate_Config_index.calls a0_0 _ _ l0_1 _ _ l0_2 _ _ l0_3 _ _ l0_4 a0_5 a0_6 a0_7 a0_8 a0_9 a0_10 a0_11 (rdOf ByteArray.empty ((rd_T64 l0_1 x58_2).f5) x66_3) t179 _ ?side1 ?side2 ?side3 ?side4 ?side5 ?side6 ?side7 ?side8 A56.out).mono ?_); (case side1 => repeat (first | exact (Kd.C_below HR0_1.out HB.out) | (with_reducible refine Kd.C_alloc ?_ _) | (with_reducible refine Kd.C_drewN ?_ _) | (with_reducible refine Kd.C_drew ?_))); (case side2 => exact HC0_1.out); (case side3 => repeat (first | exact (Kd.C_below HR0_2.out HB.out) | (with_reducible refine Kd.C_alloc ?_ _) | (with_reducible refine Kd.C_drewN ?_ _) | (with_reducible refine Kd.C_drew ?_))); (case side4 => exact HC0_2.out); (case side5 => repeat (first | exact (Kd.C_below HR0_3.out HB.out) | (with_reducible refine Kd.C_alloc ?_ _) | (with_reducible refine Kd.C_drewN ?_ _) | (with_reducible refine Kd.C_drew ?_))); (case side6 => exact HC0_3.out); (case side7 => repeat (first | exact (Kd.C_below HR0_4.out HB.out) | (with_reducible refine Kd.C_alloc ?_ _) | (with_reducible refine Kd.C_drewN ?_ _) | (with_reducible refine Kd.C_drew ?_))); (case side8 => exact HC0_4.out); rintro e w67 ⟨rfl, hb⟩; refine ⟨_, rfl, ?_⟩; have n0_ := Aside0.mk (blk_below (g := gb167) (o := .cells #[.int .i64 a0_0, .slice (some ad176) l0_1.length c0_1, .slice A0_2 l0_2.length c0_2, .slice A0_3 l0_3.length c0_3, .slice A0_4 l0_4.length c0_4, .int .i64 a0_5, .int .i64 a0_6, .int .i64 a0_7, .int .i64 a0_8, .int .i64 a0_9, .int .i64 a0_10, .int .i64 a0_11] 31 (0, 0)) (by (with_reducible repeat (first | refine blk_drewN ?_ _ | refine blk_drew ?_ | refine blk_alloc ?_ _)); exact BK167.out) hb); have n1_ := Aside0.mk (blk_below (g := gb177) (o := .cells #[.string ((rd_T64 l0_1 x58_2).f0), .int .i64 ((rd_T64 l0_1 x58_2).f1), .int .i64 ((rd_T64 l0_1 x58_2).f2), .int .i64 ((rd_T64 l0_1 x58_2).f3), .int .i64 ((rd_T64 l0_1 x58_2).f4), .slice (some ad178) ((rd_T64 l0_1 x58_2).f5).length c176_5] 64 (0, 0)) (by (with_reducible repeat (first | refine blk_drewN ?_ _ | refine blk_drew ?_ | refine blk_alloc ?_ _)); exact BK177.out) hb); have n2_ := Aside0.mk (below_step (by repeat (first | (with_reducible first | exact HB.out | apply below_alloc | apply pw_below_drewN | apply below_drew1 | refine below_set ?_ GE167.out | refine below_set ?_ GE177.out) | exact HB.out)) hb); clear BK167; clear BK177; clear HB; have BK167 := n0_; have BK177 := n1_; have HB := n2_; clear n0_ n1_ n2_; (try clear hb); (try clear hb2); (try clear hk); (try clear hi)))
                                go_roundg k3
                                case measure => have := HK1.out; have := HK2.out; have := HK3.out; omega
                                case rel => exact ⟨(wrap64 (x66_3 + 1)), (by first | rfl | (simp; done) | (simp [*]; done)), H', ⟨by have := HK1.out; have := HK2.out; have := HK3.out; omega⟩, ⟨by (with_reducible repeat (first | refine blk_drewN ?_ _ | refine blk_drew ?_ | refine blk_alloc ?_ _)); exact BK167.out⟩, ⟨by (with_reducible repeat (first | refine blk_drewN ?_ _ | refine blk_drew ?_ | refine blk_alloc ?_ _)); exact BK177.out⟩, ⟨by repeat (first | (with_reducible first | exact HB.out | apply below_alloc | apply pw_below_drewN | apply below_drew1 | refine below_set ?_ GE167.out | refine below_set ?_ GE177.out) | exact HB.out)⟩⟩
                          · rw [if_neg c55] at H
                            exact absurd H (by simp)
                        · rw [if_neg c54] at H
                          exact absurd H (by simp)
                      · rw [if_neg c53] at H
                        have c53b0 : decide (x66_3 < (((rd_T64 l0_1 x58_2).f5).length : Int)) = false := decide_eq_false c53
                        clear c53
                        have H' := Aside0.mk H
                        clear H
                        go_wp2
                        go_roundg k3
                        case measure => have := HK1.out; have := HK2.out; have := HK3.out; omega
                        case rel => exact ⟨(wrap64 (x58_2 + 1)), (by first | rfl | (simp; done) | (simp [*]; done)), H', ⟨by have := HK1.out; have := HK2.out; have := HK3.out; omega⟩, ⟨by (with_reducible repeat (first | refine blk_drewN ?_ _ | refine blk_drew ?_ | refine blk_alloc ?_ _)); exact BK167.out⟩, ⟨by repeat (first | (with_reducible first | exact HB.out | apply below_alloc | apply pw_below_drewN | apply below_drew1 | refine below_set ?_ GE167.out | refine below_set ?_ GE177.out) | exact HB.out)⟩⟩
                · rw [if_neg c49] at H
                  exact absurd H (by simp)
              · rw [if_neg c48] at H
                exact absurd H (by simp)
            · rw [if_neg c47] at H
              have c47b0 : decide (x58_2 < (l0_1.length : Int)) = false := decide_eq_false c47
              clear c47
              obtain rfl := Option.some.inj H
              go_wp2
              go_ret
              exact ⟨by first | rfl | (simp [errW_none, errW_some] <;> rfl) | (simp [*, errW_none, errW_some] <;> rfl), by repeat (first | (with_reducible first | exact HB.out | apply below_alloc | apply pw_below_drewN | apply below_drew1 | refine below_set ?_ GE167.out) | exact HB.out)⟩

end Go.Proofs.Ytdadnapfecmmdaa.P
