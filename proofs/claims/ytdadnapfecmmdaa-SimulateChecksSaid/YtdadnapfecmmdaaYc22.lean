/- Own texts of a proof about layer 55's simulate (merged): Kz. -/
import Derived.Test.YtdadnapfecmmdaaYc19
import Derived.Test.YtdadnapfecmmdaaYc20
import Derived.Test.YtdadnapfecmmdaaYc21
namespace Go.Proofs.Ytdadnapfecmmdaa.P
set_option linter.unusedVariables false
set_option linter.unusedSimpArgs false
open Go.RowKit Go.Proofs.YtdadnapfecmmdaaW.PrintWords Go.Proofs.YtdadnapfecmmdaaW.PrintLast Go.Proofs.YtdadnapfecmmdaaW.PrintMore
open Go.Proofs.Ytdadnapfecmmdaa.Hm
theorem off_none (l : List S91) (k : Int) (h : (offOf l k).2 = false) : (offOf l k).1 = 0 := by
  unfold offOf at h ⊢
  split at h
  · rename_i h0; rw [if_pos h0]
  · contradiction
set_option maxHeartbeats 4000000 in
set_option maxRecDepth 100000 in
theorem Count_tot0 (c : Cfg) (p : CfgAt) (w : World) (hR : CfgR w p c) (hne : 1 ≤ c.sv.length) (hr : ckT c = 0) : Calls Try.prog 21 #[c.val p] w fun e w' => e = .returned (.tuple #[.int .i64 (cntOf c.sv), .int .i64 0]) ∧ Below w.heap.size w w' := by
  have HR := Aside0.mk hR
  obtain ⟨A1, c1, A2, c2, A3, c3, A4, c4⟩ := p
  have HC := Aside0.mk (fun W (h : CfgR W ⟨A1, c1, A2, c2, A3, c3, A4, c4⟩ c) => check_total c ⟨A1, c1, A2, c2, A3, c3, A4, c4⟩ W h)
  rw [hr] at HC
  clear hR hr
  go_enter Try.func21, Try.ntmps21
  go_wp2_with fail
  refine (HC.out _ (HR.out.below (below_alloc (Below.refl _ _) _))).mono ?_
  rintro e w1 ⟨rfl, hb1⟩
  have HB := Aside0.mk (below_step (below_alloc (Below.refl w.heap.size w) _) hb1)
  have HX := Aside0.mk (blk_below (blk_new w (.cells (c.cells ⟨A1, c1, A2, c2, A3, c3, A4, c4⟩) 31)) hb1)
  clear hb1
  obtain ⟨q0, q1, q2, q3, q4, q5, q6, q7, q8, q9, q10, q11⟩ := cfg12 HX.out
  go_wp2_with fail
  refine (count_calls c ⟨A1, c1, A2, c2, A3, c3, A4, c4⟩ w1 (HR.out.below HB.out) hne).mono ?_
  rintro e w2 ⟨rfl, hb2⟩
  have HB2 := Aside0.mk (below_step HB.out hb2)
  clear hb2 q0 q1 q2 q3 q4 q5 q6 q7 q8 q9 q10 q11
  go_wp2_with fail
  go_returns
  exact ⟨by rfl, HB2.out⟩
set_option maxHeartbeats 4000000 in
set_option maxRecDepth 100000 in
theorem Offset_tot0 (c : Cfg) (p : CfgAt) (clock : Int) (w : World) (hR : CfgR w p c) (hr : ckT c = 0) (er : Int) (her : er = if (offOf c.off clock).2 = true then 0 else 10) : Calls Try.prog 26 #[c.val p, .int .i64 clock] w fun e w' => e = .returned (.tuple #[.int .i64 (offOf c.off clock).1, .int .i64 er]) ∧ Below w.heap.size w w' := by
  have HR := Aside0.mk hR
  obtain ⟨A1, c1, A2, c2, A3, c3, A4, c4⟩ := p
  have HC := Aside0.mk (fun W (h : CfgR W ⟨A1, c1, A2, c2, A3, c3, A4, c4⟩ c) => check_total c ⟨A1, c1, A2, c2, A3, c3, A4, c4⟩ W h)
  have HO := Aside0.mk (fun W (h : CfgR W ⟨A1, c1, A2, c2, A3, c3, A4, c4⟩ c) => offset_calls c ⟨A1, c1, A2, c2, A3, c3, A4, c4⟩ clock W h)
  have HN := off_none c.off clock
  rw [hr] at HC
  generalize offOf c.off clock = oo at her HO HN ⊢
  obtain ⟨o1, o2⟩ := oo
  clear hR hr
  have HE := Aside0.mk her
  have HN2 := Aside0.mk HN
  clear her HN
  go_enter Try.func26, Try.ntmps26
  go_wp2_with fail
  refine (HC.out _ (HR.out.below (below_alloc (Below.refl _ _) _))).mono ?_
  rintro e w1 ⟨rfl, hb1⟩
  have HB := Aside0.mk (below_step (below_alloc (Below.refl w.heap.size w) _) hb1)
  have HX := Aside0.mk (blk_below (blk_new w (.cells (c.cells ⟨A1, c1, A2, c2, A3, c3, A4, c4⟩) 31)) hb1)
  clear hb1
  obtain ⟨q0, q1, q2, q3, q4, q5, q6, q7, q8, q9, q10, q11⟩ := cfg12 HX.out
  go_wp2_with fail
  refine (HO.out w1 (HR.out.below HB.out)).mono ?_
  rintro e w2 ⟨rfl, hb2⟩
  have HB2 := Aside0.mk (below_step HB.out hb2)
  clear hb2 q0 q1 q2 q3 q4 q5 q6 q7 q8 q9 q10 q11
  cases o2 with
  | false =>
    obtain rfl : er = 10 := HE.out
    obtain rfl : o1 = 0 := HN2.out rfl
    go_wp2_with fail
    go_returns
    exact ⟨by rfl, HB2.out⟩
  | true =>
    obtain rfl : er = 0 := HE.out
    go_wp2_with fail
    go_returns
    exact ⟨by rfl, HB2.out⟩
theorem ckT_sv {c : Cfg} (h : ckT c = 0) : ckSv c.sv = 0 ∧ 1 ≤ c.sv.length := by
  unfold ckT at h
  split at h
  · contradiction
  · split at h
    · contradiction
    · rename_i h2
      split at h
      · contradiction
      · split at h
        · rename_i h3; exact absurd h h3
        · rename_i h3; exact ⟨by simpa using h3, by omega⟩
set_option maxHeartbeats 8000000 in
set_option maxRecDepth 100000 in
theorem checks_calls (c : Cfg) (p : CfgAt) (clock : Int) (w : World) (hR : CfgR w p c) : Calls Try.prog 8 #[c.val p, .int .i64 clock] w fun e w' => e = .returned (.bool true) ∧ Below w.heap.size w w' := by
  obtain ⟨A1, c1, A2, c2, A3, c3, A4, c4⟩ := p
  have HR := Aside0.mk hR
  have hn1 : c.sv.length ≤ 9223372036854775807 := hR.r1.2.1
  have HX := Aside0.mk (blk_new w (.cells (c.cells ⟨A1, c1, A2, c2, A3, c3, A4, c4⟩) 31))
  have HB := Aside0.mk (below_alloc (Below.refl w.heap.size w) (.cells (c.cells ⟨A1, c1, A2, c2, A3, c3, A4, c4⟩) 31))
  clear hR
  go_enter Try.func8, Try.ntmps8
  go_upto_region 1 with fail
  generalize w.alloc (.cells (c.cells ⟨A1, c1, A2, c2, A3, c3, A4, c4⟩) 31) = v0 at HX HB ⊢
  go_wp2_with fail
  refine (known_calls _).mono ?_
  rintro e v1 ⟨rfl, hb1⟩
  replace HX := Aside0.mk (blk_below HX.out hb1)
  replace HB := Aside0.mk (below_step HB.out hb1)
  clear hb1
  obtain ⟨q0, q1, q2, q3, q4, q5, q6, q7, q8, q9, q10, q11⟩ := cfg12 HX.out
  by_cases hsv : 6 < c.sv.length
  · have hsv_1 : decide ((6 : Int) < (c.sv.length : Int)) = true := by simp; omega
    go_wp2_with fail
    refine (known_calls _).mono ?_
    rintro e v2 ⟨rfl, hb1⟩
    replace HB := Aside0.mk (below_step HB.out hb1)
    clear hb1
    go_wp2_with fail
    go_ret
    exact ⟨by rfl, HB.out⟩
  · have hsv_1 : decide ((6 : Int) < (c.sv.length : Int)) = false := by simp; omega
    by_cases hoff : 6 < c.off.length
    · have hoff_1 : decide ((6 : Int) < (c.off.length : Int)) = true := by simp; omega
      go_wp2_with fail
      refine (known_calls _).mono ?_
      rintro e v2 ⟨rfl, hb1⟩
      replace HB := Aside0.mk (below_step HB.out hb1)
      clear hb1
      go_wp2_with fail
      go_ret
      exact ⟨by rfl, HB.out⟩
    · have hoff_1 : decide ((6 : Int) < (c.off.length : Int)) = false := by simp; omega
      by_cases hch : 6 < c.ch.length
      · have hch_1 : decide ((6 : Int) < (c.ch.length : Int)) = true := by simp; omega
        go_wp2_with fail
        refine (known_calls _).mono ?_
        rintro e v2 ⟨rfl, hb1⟩
        replace HB := Aside0.mk (below_step HB.out hb1)
        clear hb1
        go_wp2_with fail
        go_ret
        exact ⟨by rfl, HB.out⟩
      · have hch_1 : decide ((6 : Int) < (c.ch.length : Int)) = false := by simp; omega
        by_cases hfl : 6 < c.fl.length
        · have hfl_1 : decide ((6 : Int) < (c.fl.length : Int)) = true := by simp; omega
          go_wp2_with fail
          refine (known_calls _).mono ?_
          rintro e v2 ⟨rfl, hb1⟩
          replace HB := Aside0.mk (below_step HB.out hb1)
          clear hb1
          go_wp2_with fail
          go_ret
          exact ⟨by rfl, HB.out⟩
        · have hfl_1 : decide ((6 : Int) < (c.fl.length : Int)) = false := by simp; omega
          go_wp2_with fail
          clear q0 q1 q2 q3 q4 q5 q6 q7 q8 q9 q10 q11 hsv_1 hoff_1 hch_1 hfl_1
          go_loopg [5] c.sv.length (fun gg s5 wr => ∃ i : Nat, i ≤ c.sv.length ∧ c.sv.length - i ≤ gg ∧ s5 = .int .i64 (i : Int) ∧ Aside0 (wr.heap[w.heap.size]? = some (.cells (c.cells ⟨A1, c1, A2, c2, A3, c3, A4, c4⟩) 31 (0, 0))) ∧ Aside0 (Below w.heap.size w wr))
          case atStart => exact ⟨0, Nat.zero_le _, by omega, rfl, HX, HB⟩
          case round =>
          clear HX HB
          obtain ⟨i, hi, hgi, rfl, HX, HB⟩ := hrel
          by_cases hlt : i < c.sv.length
          · obtain ⟨ad, A5, c5, e, t0, t1, t2, t3, t4, t5, l5, k5⟩ := at_T64 HR.out.r1 (i : Int) (by omega) (by omega)
            dsimp only at e
            subst e
            simp only [Int.toNat_natCast] at t5
            clear t0 t1 t2 t3 t4 k5
            replace t5 := (HB.out.cell (World.block_lt_of_cell? _ _ t5)).trans t5
            generalize rd_T64 c.sv (i : Int) = x at t5 l5
            have hz1 : (i : Int) < (c.sv.length : Int) := by omega
            have s1 : IntKind.i64.wrap ((i : Int) + 1) = (i : Int) + 1 := IntWalk.i64_in _ (by omega)
            have q1 : wr.cell? ⟨w.heap.size, 1, none⟩ = some (.slice (some ad) c.sv.length c1) := (blk_cell HX.out 1).trans rfl
            by_cases h10 : 10 < x.f5.length
            · have z1 : decide ((10 : Int) < (x.f5.length : Int)) = true := by simp; omega
              go_wp2_with fail
              go_ret
              exact ⟨by rfl, HB.out⟩
            · have z1 : decide ((10 : Int) < (x.f5.length : Int)) = false := by simp; omega
              go_wp2_with fail
              go_roundg (c.sv.length - (i + 1))
              case measure => omega
              case rel => exact ⟨i + 1, by omega, by omega, by first | rfl | go_num, HX, HB⟩
          · obtain rfl : i = c.sv.length := by omega
            have hz1 : decide (c.sv.length < c.sv.length) = false := by simp
            have hz2 : decide ((c.sv.length : Int) < (c.sv.length : Int)) = false := by simp
            clear hlt hi hgi
            have q1 : wr.cell? ⟨w.heap.size, 1, none⟩ = some (.slice A1 c.sv.length c1) := (blk_cell HX.out 1).trans rfl
            go_upto_region 8 with fail
            clear q1 hz1 hz2
            by_cases hr : ckT c = 0
            · have hsv := ckT_sv hr
              have HSO := Aside0.mk (svOk_of c.sv (by omega) hsv.1)
              have hne := hsv.2
              have C25 := Aside0.mk (fun W (h : CfgR W ⟨A1, c1, A2, c2, A3, c3, A4, c4⟩ c) => mcheck_total c ⟨A1, c1, A2, c2, A3, c3, A4, c4⟩ W h (by omega) (by omega))
              have C27 := Aside0.mk (fun W (h : CfgR W ⟨A1, c1, A2, c2, A3, c3, A4, c4⟩ c) => check_total c ⟨A1, c1, A2, c2, A3, c3, A4, c4⟩ W h)
              rw [hr] at C25 C27
              have C26 := Aside0.mk (fun W (h : CfgR W ⟨A1, c1, A2, c2, A3, c3, A4, c4⟩ c) er her => Offset_tot0 c ⟨A1, c1, A2, c2, A3, c3, A4, c4⟩ clock W h hr er her)
              have C30 := Aside0.mk (fun W (h : CfgR W ⟨A1, c1, A2, c2, A3, c3, A4, c4⟩ c) => moffset_calls c ⟨A1, c1, A2, c2, A3, c3, A4, c4⟩ clock W h)
              have C21 := Aside0.mk (fun W (h : CfgR W ⟨A1, c1, A2, c2, A3, c3, A4, c4⟩ c) => Count_tot0 c ⟨A1, c1, A2, c2, A3, c3, A4, c4⟩ W h hne hr)
              have C31 := Aside0.mk (fun W (h : CfgR W ⟨A1, c1, A2, c2, A3, c3, A4, c4⟩ c) => mcount_calls c ⟨A1, c1, A2, c2, A3, c3, A4, c4⟩ W h HSO.out hne)
              generalize offOf c.off clock = oo at C26 C30
              obtain ⟨o1, o2⟩ := oo
              generalize cntOf c.sv = cn at C21 C31
              clear hsv hr HSO hne
              cases o2 with
              | false =>
                replace C26 := Aside0.mk (fun W h => C26.out W h 10 rfl)
                obtain ⟨q0, q1, q2, q3, q4, q5, q6, q7, q8, q9, q10, q11⟩ := cfg12 HX.out
                go_wp2_with fail
                refine (C25.out _ (HR.out.below HB.out)).mono ?_
                rintro e u1 ⟨rfl, hb1⟩
                replace HX := Aside0.mk (blk_below HX.out hb1)
                replace HB := Aside0.mk (below_step HB.out hb1)
                clear hb1 q0 q1 q2 q3 q4 q5 q6 q7 q8 q9 q10 q11
                obtain ⟨q0, q1, q2, q3, q4, q5, q6, q7, q8, q9, q10, q11⟩ := cfg12 HX.out
                go_wp2_with fail
                refine (C21.out _ (HR.out.below HB.out)).mono ?_
                rintro e u2 ⟨rfl, hb1⟩
                replace HX := Aside0.mk (blk_below HX.out hb1)
                replace HB := Aside0.mk (below_step HB.out hb1)
                clear hb1 q0 q1 q2 q3 q4 q5 q6 q7 q8 q9 q10 q11
                obtain ⟨q0, q1, q2, q3, q4, q5, q6, q7, q8, q9, q10, q11⟩ := cfg12 HX.out
                go_wp2_with fail
                refine (C26.out _ (HR.out.below HB.out)).mono ?_
                rintro e u3 ⟨rfl, hb1⟩
                replace HX := Aside0.mk (blk_below HX.out hb1)
                replace HB := Aside0.mk (below_step HB.out hb1)
                clear hb1 q0 q1 q2 q3 q4 q5 q6 q7 q8 q9 q10 q11
                obtain ⟨q0, q1, q2, q3, q4, q5, q6, q7, q8, q9, q10, q11⟩ := cfg12 HX.out
                go_wp2_with fail
                refine (C27.out _ (HR.out.below HB.out)).mono ?_
                rintro e u4 ⟨rfl, hb1⟩
                replace HX := Aside0.mk (blk_below HX.out hb1)
                replace HB := Aside0.mk (below_step HB.out hb1)
                clear hb1 q0 q1 q2 q3 q4 q5 q6 q7 q8 q9 q10 q11
                obtain ⟨q0, q1, q2, q3, q4, q5, q6, q7, q8, q9, q10, q11⟩ := cfg12 HX.out
                go_wp2_with fail
                refine (C30.out _ (HR.out.below HB.out)).mono ?_
                rintro e u5 ⟨rfl, hb1⟩
                replace HX := Aside0.mk (blk_below HX.out hb1)
                replace HB := Aside0.mk (below_step HB.out hb1)
                clear hb1 q0 q1 q2 q3 q4 q5 q6 q7 q8 q9 q10 q11
                have z1 : (cn == cn) = true := by simp
                have z2 : (o1 == o1) = true := by simp
                obtain ⟨q0, q1, q2, q3, q4, q5, q6, q7, q8, q9, q10, q11⟩ := cfg12 HX.out
                go_wp2_with fail
                refine (C31.out _ (HR.out.below HB.out)).mono ?_
                rintro e u6 ⟨rfl, hb1⟩
                replace HX := Aside0.mk (blk_below HX.out hb1)
                replace HB := Aside0.mk (below_step HB.out hb1)
                clear hb1 q0 q1 q2 q3 q4 q5 q6 q7 q8 q9 q10 q11
                go_wp2_with fail
                go_ret
                exact ⟨by simp, HB.out⟩
              | true =>
                replace C26 := Aside0.mk (fun W h => C26.out W h 0 rfl)
                obtain ⟨q0, q1, q2, q3, q4, q5, q6, q7, q8, q9, q10, q11⟩ := cfg12 HX.out
                go_wp2_with fail
                refine (C25.out _ (HR.out.below HB.out)).mono ?_
                rintro e u7 ⟨rfl, hb1⟩
                replace HX := Aside0.mk (blk_below HX.out hb1)
                replace HB := Aside0.mk (below_step HB.out hb1)
                clear hb1 q0 q1 q2 q3 q4 q5 q6 q7 q8 q9 q10 q11
                obtain ⟨q0, q1, q2, q3, q4, q5, q6, q7, q8, q9, q10, q11⟩ := cfg12 HX.out
                go_wp2_with fail
                refine (C21.out _ (HR.out.below HB.out)).mono ?_
                rintro e u8 ⟨rfl, hb1⟩
                replace HX := Aside0.mk (blk_below HX.out hb1)
                replace HB := Aside0.mk (below_step HB.out hb1)
                clear hb1 q0 q1 q2 q3 q4 q5 q6 q7 q8 q9 q10 q11
                obtain ⟨q0, q1, q2, q3, q4, q5, q6, q7, q8, q9, q10, q11⟩ := cfg12 HX.out
                go_wp2_with fail
                refine (C26.out _ (HR.out.below HB.out)).mono ?_
                rintro e u9 ⟨rfl, hb1⟩
                replace HX := Aside0.mk (blk_below HX.out hb1)
                replace HB := Aside0.mk (below_step HB.out hb1)
                clear hb1 q0 q1 q2 q3 q4 q5 q6 q7 q8 q9 q10 q11
                obtain ⟨q0, q1, q2, q3, q4, q5, q6, q7, q8, q9, q10, q11⟩ := cfg12 HX.out
                go_wp2_with fail
                refine (C27.out _ (HR.out.below HB.out)).mono ?_
                rintro e u10 ⟨rfl, hb1⟩
                replace HX := Aside0.mk (blk_below HX.out hb1)
                replace HB := Aside0.mk (below_step HB.out hb1)
                clear hb1 q0 q1 q2 q3 q4 q5 q6 q7 q8 q9 q10 q11
                obtain ⟨q0, q1, q2, q3, q4, q5, q6, q7, q8, q9, q10, q11⟩ := cfg12 HX.out
                go_wp2_with fail
                refine (C30.out _ (HR.out.below HB.out)).mono ?_
                rintro e u11 ⟨rfl, hb1⟩
                replace HX := Aside0.mk (blk_below HX.out hb1)
                replace HB := Aside0.mk (below_step HB.out hb1)
                clear hb1 q0 q1 q2 q3 q4 q5 q6 q7 q8 q9 q10 q11
                have z1 : (cn == cn) = true := by simp
                have z2 : (o1 == o1) = true := by simp
                obtain ⟨q0, q1, q2, q3, q4, q5, q6, q7, q8, q9, q10, q11⟩ := cfg12 HX.out
                go_wp2_with fail
                refine (C31.out _ (HR.out.below HB.out)).mono ?_
                rintro e u12 ⟨rfl, hb1⟩
                replace HX := Aside0.mk (blk_below HX.out hb1)
                replace HB := Aside0.mk (below_step HB.out hb1)
                clear hb1 q0 q1 q2 q3 q4 q5 q6 q7 q8 q9 q10 q11
                go_wp2_with fail
                go_ret
                exact ⟨by simp, HB.out⟩
            · have C25 := Aside0.mk (fun W (h : CfgR W ⟨A1, c1, A2, c2, A3, c3, A4, c4⟩ c) => mcheck_total c ⟨A1, c1, A2, c2, A3, c3, A4, c4⟩ W h (by omega) (by omega))
              have C27 := Aside0.mk (fun W (h : CfgR W ⟨A1, c1, A2, c2, A3, c3, A4, c4⟩ c) => check_total c ⟨A1, c1, A2, c2, A3, c3, A4, c4⟩ W h)
              have C21 := Aside0.mk (fun W (h : CfgR W ⟨A1, c1, A2, c2, A3, c3, A4, c4⟩ c) => Count_err c ⟨A1, c1, A2, c2, A3, c3, A4, c4⟩ W h hr)
              have C16 := Aside0.mk (fun W (h : CfgR W ⟨A1, c1, A2, c2, A3, c3, A4, c4⟩ c) => Truth_terr c ⟨A1, c1, A2, c2, A3, c3, A4, c4⟩ W h hr)
              have C13 := Aside0.mk (fun W (h : CfgR W ⟨A1, c1, A2, c2, A3, c3, A4, c4⟩ c) => Traces_terr c ⟨A1, c1, A2, c2, A3, c3, A4, c4⟩ W h hr)
              have C28 := Aside0.mk (fun W (h : CfgR W ⟨A1, c1, A2, c2, A3, c3, A4, c4⟩ c) => Sent_terr c ⟨A1, c1, A2, c2, A3, c3, A4, c4⟩ W h hr)
              have C29 := Aside0.mk (fun W (h : CfgR W ⟨A1, c1, A2, c2, A3, c3, A4, c4⟩ c) => Arrivals_terr c ⟨A1, c1, A2, c2, A3, c3, A4, c4⟩ W h hr)
              have C26 := Aside0.mk (fun W (h : CfgR W ⟨A1, c1, A2, c2, A3, c3, A4, c4⟩ c) => Offset_err c ⟨A1, c1, A2, c2, A3, c3, A4, c4⟩ W clock h hr)
              have HRB : Aside0 ((ckT c != 0) = true) := ⟨by simpa using hr⟩
              clear hr
              generalize ckT c = r at HRB C25 C27 C21 C16 C13 C28 C29 C26
              have hrb := HRB.out
              have z1 : (r != r) = false := by simp
              have z2 : (r == r) = true := by simp
              obtain ⟨q0, q1, q2, q3, q4, q5, q6, q7, q8, q9, q10, q11⟩ := cfg12 HX.out
              go_wp2_with fail
              refine (C25.out _ (HR.out.below HB.out)).mono ?_
              rintro e u13 ⟨rfl, hb1⟩
              replace HX := Aside0.mk (blk_below HX.out hb1)
              replace HB := Aside0.mk (below_step HB.out hb1)
              clear hb1 q0 q1 q2 q3 q4 q5 q6 q7 q8 q9 q10 q11
              obtain ⟨q0, q1, q2, q3, q4, q5, q6, q7, q8, q9, q10, q11⟩ := cfg12 HX.out
              go_wp2_with fail
              refine (C21.out _ (HR.out.below HB.out)).mono ?_
              rintro e u14 ⟨rfl, hb1⟩
              replace HX := Aside0.mk (blk_below HX.out hb1)
              replace HB := Aside0.mk (below_step HB.out hb1)
              clear hb1 q0 q1 q2 q3 q4 q5 q6 q7 q8 q9 q10 q11
              obtain ⟨q0, q1, q2, q3, q4, q5, q6, q7, q8, q9, q10, q11⟩ := cfg12 HX.out
              go_wp2_with fail
              refine (C26.out _ (HR.out.below HB.out)).mono ?_
              rintro e u15 ⟨rfl, hb1⟩
              replace HX := Aside0.mk (blk_below HX.out hb1)
              replace HB := Aside0.mk (below_step HB.out hb1)
              clear hb1 q0 q1 q2 q3 q4 q5 q6 q7 q8 q9 q10 q11
              obtain ⟨q0, q1, q2, q3, q4, q5, q6, q7, q8, q9, q10, q11⟩ := cfg12 HX.out
              go_wp2_with fail
              refine (C27.out _ (HR.out.below HB.out)).mono ?_
              rintro e u16 ⟨rfl, hb1⟩
              replace HX := Aside0.mk (blk_below HX.out hb1)
              replace HB := Aside0.mk (below_step HB.out hb1)
              clear hb1 q0 q1 q2 q3 q4 q5 q6 q7 q8 q9 q10 q11
              obtain ⟨q0, q1, q2, q3, q4, q5, q6, q7, q8, q9, q10, q11⟩ := cfg12 HX.out
              go_wp2_with fail
              refine (C16.out _ (HR.out.below HB.out)).mono ?_
              rintro e u17 ⟨rfl, hb1⟩
              replace HX := Aside0.mk (blk_below HX.out hb1)
              replace HB := Aside0.mk (below_step HB.out hb1)
              clear hb1 q0 q1 q2 q3 q4 q5 q6 q7 q8 q9 q10 q11
              obtain ⟨q0, q1, q2, q3, q4, q5, q6, q7, q8, q9, q10, q11⟩ := cfg12 HX.out
              go_wp2_with fail
              refine (C13.out _ (HR.out.below HB.out)).mono ?_
              rintro e u18 ⟨rfl, hb1⟩
              replace HX := Aside0.mk (blk_below HX.out hb1)
              replace HB := Aside0.mk (below_step HB.out hb1)
              clear hb1 q0 q1 q2 q3 q4 q5 q6 q7 q8 q9 q10 q11
              obtain ⟨q0, q1, q2, q3, q4, q5, q6, q7, q8, q9, q10, q11⟩ := cfg12 HX.out
              go_wp2_with fail
              refine (C28.out _ (HR.out.below HB.out)).mono ?_
              rintro e u19 ⟨rfl, hb1⟩
              replace HX := Aside0.mk (blk_below HX.out hb1)
              replace HB := Aside0.mk (below_step HB.out hb1)
              clear hb1 q0 q1 q2 q3 q4 q5 q6 q7 q8 q9 q10 q11
              obtain ⟨q0, q1, q2, q3, q4, q5, q6, q7, q8, q9, q10, q11⟩ := cfg12 HX.out
              go_wp2_with fail
              refine (C29.out _ (HR.out.below HB.out)).mono ?_
              rintro e u20 ⟨rfl, hb1⟩
              replace HX := Aside0.mk (blk_below HX.out hb1)
              replace HB := Aside0.mk (below_step HB.out hb1)
              clear hb1 q0 q1 q2 q3 q4 q5 q6 q7 q8 q9 q10 q11
              go_wp2_with fail
              go_ret
              exact ⟨by simp, HB.out⟩
end Go.Proofs.Ytdadnapfecmmdaa.P
