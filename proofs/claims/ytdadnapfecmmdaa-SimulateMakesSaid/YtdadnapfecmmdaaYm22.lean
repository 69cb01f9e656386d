/- Own texts of a proof about layer 55's simulate (merged): Mh. -/
import Derived.Test.YtdadnapfecmmdaaYm12
import Derived.Test.YtdadnapfecmmdaaYm13
import Derived.Test.YtdadnapfecmmdaaYm19
import Derived.Test.YtdadnapfecmmdaaYm21
import Derived.Test.YtdadnapfecmmdaaYm5
namespace Go.Proofs.Ytdadnapfecmmdaa.P
set_option linter.unusedVariables false
set_option linter.unusedSimpArgs false
open Go.RowKit Go.Proofs.YtdadnapfecmmdaaW.PrintWords Go.Proofs.YtdadnapfecmmdaaW.PrintLast Go.Proofs.YtdadnapfecmmdaaW.PrintMore
open Go.Proofs.Ytdadnapfecmmdaa.Hm
theorem TsOut.below' {b : Nat} {w w' : World} {ts : List Tr} {v : Value} (h : TsOut b w ts v) (hb : Below w.heap.size w w') : TsOut b w' ts v := by
  obtain ⟨xs, h1, h2, h3⟩ := h
  exact ⟨xs, h1, pw_own_below h2 hb, h3.below hb⟩
set_option maxHeartbeats 8000000 in
set_option maxRecDepth 100000 in
theorem makes_calls (p : Plan) (a : PlanAt) (w : World) (hR : PlanR w a p) (hok : PlanOk p) :
    Calls Try.prog 6 #[.agg (p.cells a)] w fun e w' => e = .returned (.bool true) ∧ Below w.heap.size w w' := by
  have HCF := Aside0.mk (fun W (hb : Below w.heap.size w W) => config_calls p a W (hR.below hb) hok)
  have HCK := Aside0.mk (ckAll_ok (cfg_valid p hok) 0)
  have HTV := Aside0.mk (plan_traces p hok id 110 (Nat.le_refl _))
  have HTS := Aside0.mk (plan_traces p hok (shiftSp (p.cfg chgs47).off) 110 (Nat.le_refl _))
  have HSY := Aside0.mk (plan_sys p hok)
  have hsf : 0 ≤ (p.cfg chgs47).sfrom := by have := hok.first; show 0 ≤ p.first % 8; omega
  have hst : (p.cfg chgs47).sto ≤ 100 := by show p.first % 8 + p.slots % 4 ≤ 100; omega
  have hss : (p.cfg chgs47).sfrom ≤ (p.cfg chgs47).sto := by show p.first % 8 ≤ p.first % 8 + p.slots % 4; omega
  have hpr : (p.cfg chgs47).per ≤ 10 := by show p.per % 3 ≤ 10; omega
  have hp0 : 0 ≤ (p.cfg chgs47).per := by show 0 ≤ p.per % 3; omega
  generalize p.cfg chgs47 = c at HCF HCK HTV HTS HSY hsf hst hss hpr hp0
  have HL := Aside0.mk (tracesI_len c hss hp0)
  have HSP := Aside0.mk (fun x hx => tracesI_spans HSY.out x hx)
  have HSH := Aside0.mk (tracesI_shift c (shiftSp c.off))
  have hne := HSY.out.n0
  have HLE : Aside0 (∀ x ∈ tracesI c id, x.l.length ≤ 1000) := ⟨fun x hx => by
    have h1 := (HSP.out x hx).1
    have h2 := cAt_le HSY.out 0
    have h3 : cntOf c.sv = cAt c.sv 0 := by
      unfold cntOf cAt
      rw [List.drop_zero, show (0 : Int) = ((0 : Nat) : Int) from rfl, rd_T64_get _ 0 (by omega), HSY.out.name 0 (by omega)]
    omega⟩
  have hS2 : (tracesI c id).length ≤ 10000 := by
    have h1 := HL.out
    have h2 : c.per * (c.sto - c.sfrom) ≤ 10 * (c.sto - c.sfrom) := Int.mul_le_mul_of_nonneg_right hpr (by omega)
    omega
  have HSW := Aside0.mk (fun W (p : CfgAt) (b : Nat) (v : Value) (hR : CfgR W p c) (ht : TsOut b W (tracesI c id) v) => mshown_calls c p b (tracesI c id) v W hR ht (fun x hx => (HSP.out x hx).2) HLE.out hS2)
  have HMT := Aside0.mk (fun W (p : CfgAt) (hR : CfgR W p c) => mtruth_calls c p W hR HSY.out hsf hst hpr)
  rw [HSH.out] at HTS
  generalize (tracesI c id).map (fun x => (⟨x.id, x.l.map (shiftSp c.off)⟩ : Tr)) = l2 at HTS HSW
  have hm1 : (tracesI c id).length = c.per * (c.sto - c.sfrom) := HL.out
  clear HSH HLE HL
  generalize tracesI c id = ts at HTV HSP HSW HMT hm1 hS2
  have s1 : IntKind.i64.wrap (c.sto - c.sfrom) = c.sto - c.sfrom := IntWalk.i64_in _ (by omega)
  have s2 : IntKind.i64.wrap (c.per * (c.sto - c.sfrom)) = (ts.length : Int) := by rw [← hm1]; exact IntWalk.i64_in _ (by omega)
  clear hR hok hm1 HSY
  go_enter Try.func6, Try.ntmps6
  go_wp2_with fail
  refine (HCF.out _ (below_alloc (Below.refl _ _) _)).mono ?_
  rintro e w1 ⟨⟨A1, c1, A2, c2, A3, c3, A4, c4⟩, rfl, hR1, hb1⟩
  have HR1 := Aside0.mk hR1.now
  have HB1 := Aside0.mk (below_step (below_alloc (Below.refl w.heap.size w) _) hb1)
  clear hR1 hb1 HCF
  go_upto_region 2 with fail
  have hbb : Below w1.heap.size w1 (w1.alloc (.cells (c.cells ⟨A1, c1, A2, c2, A3, c3, A4, c4⟩) 31)) := below_alloc (Below.refl _ _) _
  have HX1 := Aside0.mk (blk_new w1 (.cells (c.cells ⟨A1, c1, A2, c2, A3, c3, A4, c4⟩) 31))
  have HR2 := Aside0.mk (HR1.out.below hbb)
  have HB2 := Aside0.mk (below_step HB1.out hbb)
  clear hbb HR1 HB1
  generalize w1.alloc (.cells (c.cells ⟨A1, c1, A2, c2, A3, c3, A4, c4⟩) 31) = v1 at HX1 HR2 HB2 ⊢
  generalize w1.heap.size = gb at HX1 ⊢
  go_wp2_with fail
  refine (known_calls _).mono ?_
  rintro e w2 ⟨rfl, hb2⟩
  have HX2 := Aside0.mk (blk_below HX1.out hb2)
  have HR3 := Aside0.mk (HR2.out.below hb2)
  have HB3 := Aside0.mk (below_step HB2.out hb2)
  obtain ⟨q0, q1, q2, q3, q4, q5, q6, q7, q8, q9, q10, q11⟩ := cfg12 HX2.out
  clear HX1 HR2 HB2 hb2
  go_wp2_with fail
  refine (Count_ok 0 c ⟨A1, c1, A2, c2, A3, c3, A4, c4⟩ _ HR3.out HCK.out hne).mono ?_
  rintro e w3 ⟨rfl, hb3⟩
  have HX3 := Aside0.mk (blk_below HX2.out hb3)
  have HR4 := Aside0.mk (HR3.out.below hb3)
  have HB4 := Aside0.mk (below_step HB3.out hb3)
  clear HX2 HR3 HB3 hb3 q0 q1 q2 q3 q4 q5 q6 q7 q8 q9 q10 q11
  obtain ⟨q0, q1, q2, q3, q4, q5, q6, q7, q8, q9, q10, q11⟩ := cfg12 HX3.out
  go_wp2_with fail
  refine (Truth_ok 110 0 c ⟨A1, c1, A2, c2, A3, c3, A4, c4⟩ _ _ HR4.out HCK.out HTV.out).mono ?_
  rintro e w4 ⟨v, rfl, ht, hb4⟩
  obtain ⟨AL, cL, rfl, hcL, hCL⟩ := ht.reads
  rw [List.length_map] at hcL hCL
  rw [List.length_map]
  have HCL := Aside0.mk hCL
  have HX4 := Aside0.mk (blk_below HX3.out hb4)
  have HR5 := Aside0.mk (HR4.out.below hb4)
  have HB5 := Aside0.mk (below_step HB4.out hb4)
  clear HX3 HR4 HB4 hb4 ht hCL q0 q1 q2 q3 q4 q5 q6 q7 q8 q9 q10 q11
  obtain ⟨q0, q1, q2, q3, q4, q5, q6, q7, q8, q9, q10, q11⟩ := cfg12 HX4.out
  go_wp2_with fail
  refine (Traces_ok 110 0 c ⟨A1, c1, A2, c2, A3, c3, A4, c4⟩ _ _ HR5.out HCK.out HTS.out).mono ?_
  rintro e w5 ⟨v, rfl, ht, hb5⟩
  obtain ⟨AM, cM, rfl, hcM, hCM⟩ := ht.reads
  rw [List.length_map] at hcM hCM
  rw [List.length_map]
  have HCM := Aside0.mk hCM
  replace HCL := Aside0.mk (Kd.C_below HCL.out hb5)
  have HX5 := Aside0.mk (blk_below HX4.out hb5)
  have HR6 := Aside0.mk (HR5.out.below hb5)
  have HB6 := Aside0.mk (below_step HB5.out hb5)
  clear HX4 HR5 HB5 hb5 ht hCM q0 q1 q2 q3 q4 q5 q6 q7 q8 q9 q10 q11
  obtain ⟨q0, q1, q2, q3, q4, q5, q6, q7, q8, q9, q10, q11⟩ := cfg12 HX5.out
  go_wp2_with fail
  refine (HMT.out _ ⟨A1, c1, A2, c2, A3, c3, A4, c4⟩ HR6.out).mono ?_
  rintro e w6 ⟨v, rfl, ht, hb6⟩
  have HTW := Aside0.mk ht
  obtain ⟨AW, cW, rfl, hcW, hCW⟩ := ht.reads
  rw [List.length_map] at hcW hCW HTW
  rw [List.length_map]
  have HCW := Aside0.mk hCW
  replace HCL := Aside0.mk (Kd.C_below HCL.out hb6)
  replace HCM := Aside0.mk (Kd.C_below HCM.out hb6)
  have HX6 := Aside0.mk (blk_below HX5.out hb6)
  have HR7 := Aside0.mk (HR6.out.below hb6)
  have HB7 := Aside0.mk (below_step HB6.out hb6)
  clear HX5 HR6 HB6 hb6 ht hCW q0 q1 q2 q3 q4 q5 q6 q7 q8 q9 q10 q11
  obtain ⟨q0, q1, q2, q3, q4, q5, q6, q7, q8, q9, q10, q11⟩ := cfg12 HX6.out
  go_wp2_with fail
  refine (sameTraces_eq AL cL AW cW ts _ HCL.out HCW.out).mono ?_
  rintro e w7 ⟨rfl, hb7⟩
  have HTW7 := Aside0.mk (HTW.out.below' hb7)
  have HX7 := Aside0.mk (blk_below HX6.out hb7)
  have HCM7 := Aside0.mk (Kd.C_below HCM.out hb7)
  have HCL7 := Aside0.mk (Kd.C_below HCL.out hb7)
  have HB8 := Aside0.mk (below_step HB7.out hb7)
  have HB67 := Aside0.mk hb7
  clear HX6 hb7 q0 q1 q2 q3 q4 q5 q6 q7 q8 q9 q10 q11 HCM HCL HCW HB7
  obtain ⟨q0, q1, q2, q3, q4, q5, q6, q7, q8, q9, q10, q11⟩ := cfg12 HX7.out
  go_wp2_with fail
  refine (HSW.out _ ⟨A1, c1, A2, c2, A3, c3, A4, c4⟩ _ _ (HR7.out.below HB67.out) HTW7.out).mono ?_
  rintro e w8 ⟨v, rfl, ht, hb8⟩
  obtain ⟨AS, cS, rfl, hcS, hCS⟩ := ht.reads
  rw [List.length_map] at hcS hCS
  rw [List.length_map]
  have HCS := Aside0.mk hCS
  have HCM8 := Aside0.mk (Kd.C_below HCM7.out hb8)
  have HCL8 := Aside0.mk (Kd.C_below HCL7.out hb8)
  have HX8 := Aside0.mk (blk_below HX7.out hb8)
  have HB9 := Aside0.mk (below_step HB8.out hb8)
  clear ht hb8 hCS HB67 HTW7 HTW HX7 HCM7 HCL7 HB8 q0 q1 q2 q3 q4 q5 q6 q7 q8 q9 q10 q11
  go_wp2_with fail
  refine (sameTraces_eq AM cM AS cS l2 _ HCM8.out HCS.out).mono ?_
  rintro e w9 ⟨rfl, hb9⟩
  have HCL9 := Aside0.mk (Kd.C_below HCL8.out hb9)
  have HX9 := Aside0.mk (blk_below HX8.out hb9)
  have HB10 := Aside0.mk (below_step HB9.out hb9)
  clear hb9 HCM8 HCS HX8 HB9 HCL8
  obtain ⟨q0, q1, q2, q3, q4, q5, q6, q7, q8, q9, q10, q11⟩ := cfg12 HX9.out
  have s3 : ((ts.length : Int) != (ts.length : Int)) = false := by simp
  clear s3
  go_wp2_with fail
  clear q0 q1 q2 q3 q4 q5 q6 q7 q8 q9 q10 q11 HX9
  go_loopg [11] ts.length (fun gg s11 wr => ∃ i : Nat, i ≤ ts.length ∧ ts.length - i ≤ gg ∧ s11 = .int .i64 (i : Int) ∧ Aside0 (Below w9.heap.size w9 wr))
  case atStart => exact ⟨0, Nat.zero_le _, by omega, rfl, ⟨Below.refl _ _⟩⟩
  case round =>
  obtain ⟨i, hi, hgi, rfl, HB⟩ := hrel
  by_cases hlt : i < ts.length
  · obtain ⟨ad, A2', k2, e, -, -, t2, hk2, hC2⟩ := at_T51 HCL9.out (i : Int) (by omega) (by omega)
    subst e
    rw [rdT_at ts i hlt] at t2 hC2 hk2
    have hcn := (HSP.out ts[i] (List.getElem_mem _)).1
    have hz1 : (i : Int) < (ts.length : Int) := by omega
    generalize ts[i] = x at t2 hC2 hk2 hcn
    simp only [Int.toNat_natCast, toT, List.length_map] at t2 hC2 hk2
    replace t2 := (HB.out.cell (World.block_lt_of_cell? _ _ t2)).trans t2
    clear hC2 hk2
    have s3 : ((x.l.length : Int) != cntOf c.sv) = false := by rw [hcn]; simp
    have s4 : IntKind.i64.wrap ((i : Int) + 1) = (i : Int) + 1 := IntWalk.i64_in _ (by omega)
    clear hcn
    go_wp2_with fail
    go_roundg (ts.length - (i + 1))
    case measure => omega
    case rel => exact ⟨i + 1, by omega, by omega, by first | rfl | go_num, HB⟩
  · obtain rfl : i = ts.length := by omega
    have hz1 : decide (ts.length < ts.length) = false := by simp
    have hz2 : decide ((ts.length : Int) < (ts.length : Int)) = false := by simp
    clear hlt
    go_wp2
    go_ret
    exact ⟨rfl, below_step HB10.out HB.out⟩
end Go.Proofs.Ytdadnapfecmmdaa.P
