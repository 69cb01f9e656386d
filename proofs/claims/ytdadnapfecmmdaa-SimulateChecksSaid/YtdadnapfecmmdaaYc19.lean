/- Own texts of a proof about layer 55's simulate (merged): Kk. -/
import Derived.Test.YtdadnapfecmmdaaYc10
import Derived.Test.YtdadnapfecmmdaaYc17
import Derived.Test.YtdadnapfecmmdaaYc18
import Derived.Test.YtdadnapfecmmdaaYc2
namespace Go.Proofs.Ytdadnapfecmmdaa.P
set_option linter.unusedVariables false
set_option linter.unusedSimpArgs false
open Go.RowKit Go.Proofs.YtdadnapfecmmdaaW.PrintWords Go.Proofs.YtdadnapfecmmdaaW.PrintLast Go.Proofs.YtdadnapfecmmdaaW.PrintMore
open Go.Proofs.Ytdadnapfecmmdaa.Hm
def kkT.T7 : Bool × List (List Nat × List Nat) := (true, [([], []), ([0], [0]), ([], []), ([2, 1], [2]), ([], []), ([4], [4]), ([5, 3], [5]), ([1, 3, 6], [1, 3, 6]), ([7, 6, 0, 1, 2, 3, 4, 5, 6, 7], [7])])
def kkT.B7 : List Nat := [0, 1, 0, 7, 0, 16, 63, 127, 255]
theorem kkT.tab7 : rtab .any (opsOf Try.f25 7) = kkT.T7 := by kernel_rfl
theorem kkT.bits7 : waitsOk kkT.T7.2 kkT.B7 = true := by kernel_rfl
set_option maxHeartbeats 8000000 in
set_option maxRecDepth 100000 in
theorem mcheck_total (c : Cfg) (p : CfgAt) (w : World) (hR : CfgR w p c) (h6 : c.sv.length ≤ 6) (hf6 : c.fl.length ≤ 6) : Calls Try.prog 25 #[c.val p] w fun e w' => e = .returned (.int .i64 (ckT c)) ∧ Below w.heap.size w w' := by
  have HR := Aside0.mk hR
  obtain ⟨A1, c1, A2, c2, A3, c3, A4, c4⟩ := p
  have HX := Aside0.mk (blk_new w (.cells (c.cells ⟨A1, c1, A2, c2, A3, c3, A4, c4⟩) 31))
  have HB := Aside0.mk (below_alloc (Below.refl w.heap.size w) (.cells (c.cells ⟨A1, c1, A2, c2, A3, c3, A4, c4⟩) 31))
  have K0 := Aside0.mk (fun W => ranged_calls c.seed 0 1048576 W)
  clear hR
  by_cases h1 : c.seed < 0 ∨ 1048576 < c.seed
  · have hT : ckT c = 2 := by unfold ckT; rw [if_pos h1]
    rw [hT]
    rw [show bad c.seed 0 1048576 = true from decide_eq_true h1] at K0
    clear h1 hT
    go_enter Try.func25, Try.ntmps25
    go_upto_region 1 with fail
    generalize w.alloc (.cells (c.cells ⟨A1, c1, A2, c2, A3, c3, A4, c4⟩) 31) = v0 at HX HB ⊢
    have q0 : v0.cell? ⟨w.heap.size, 0, none⟩ = some (.int .i64 c.seed) := (blk_cell HX.out 0).trans rfl
    go_wp2_with fail
    refine (K0.out _).mono ?_
    rintro e v1 ⟨rfl, hb1⟩
    replace HX := Aside0.mk (blk_below HX.out hb1)
    replace HB := Aside0.mk (below_step HB.out hb1)
    clear hb1 q0
    go_wp2_with fail
    go_ret
    exact ⟨rfl, HB.out⟩
  · rw [show bad c.seed 0 1048576 = false from decide_eq_false h1] at K0
    by_cases h2 : c.sv.length = 0
    · have hT : ckT c = 7 := by unfold ckT; rw [if_neg h1, if_pos h2]
      have k2 : ((c.sv.length : Int) == 0) = true := by simpa using h2
      rw [hT]
      clear h1 hT h6 h2
      go_enter Try.func25, Try.ntmps25
      go_upto_region 1 with fail
      generalize w.alloc (.cells (c.cells ⟨A1, c1, A2, c2, A3, c3, A4, c4⟩) 31) = v0 at HX HB ⊢
      have q0 : v0.cell? ⟨w.heap.size, 0, none⟩ = some (.int .i64 c.seed) := (blk_cell HX.out 0).trans rfl
      go_wp2_with fail
      refine (K0.out _).mono ?_
      rintro e v1 ⟨rfl, hb1⟩
      replace HX := Aside0.mk (blk_below HX.out hb1)
      replace HB := Aside0.mk (below_step HB.out hb1)
      clear hb1 q0
      have q1 : v1.cell? ⟨w.heap.size, 1, none⟩ = some (.slice A1 c.sv.length c1) := (blk_cell HX.out 1).trans rfl
      go_wp2_with fail
      go_ret
      exact ⟨rfl, HB.out⟩
    · have k2 : ((c.sv.length : Int) == 0) = false := by simpa using h2
      have hT := ckT_from c h1 h2 (by omega)
      have hne : 1 ≤ c.sv.length := by omega
      have k3 : decide ((16 : Int) < (c.sv.length : Int)) = false := by simp; omega
      have k4 : decide ((16 : Int) < (c.fl.length : Int)) = false := by simp; omega
      have R1 := Aside0.mk (fun i (hi : i < 5) h he => fstE_hit (ckAtT c) i h he 5 hi)
      have R3 := Aside0.mk (fun h => fstE_zero (ckAtT c) 5 h)
      rw [hT]
      have HSO := Aside0.mk (svOk_of c.sv h6)
      generalize fstE (ckAtT c) 5 = R at R1 R3 ⊢
      have D0 : Aside0 (ckSv c.sv ≠ 0 → R = ckSv c.sv) := ⟨fun h => R1.out 0 (by omega) (fun j hj => absurd hj (Nat.not_lt_zero _)) h⟩
      have D1 : Aside0 (ckSv c.sv = 0 → ckOff c.off c.sv ≠ 0 → R = ckOff c.off c.sv) := ⟨fun a0 h => R1.out 1 (by omega) (fun j hj => by match j, hj with | 0, _ => exact a0) h⟩
      have D2 : Aside0 (ckSv c.sv = 0 → ckOff c.off c.sv = 0 → depCheck c.ch ≠ 0 → R = depCheck c.ch) := ⟨fun a0 a1 h => R1.out 2 (by omega) (fun j hj => by match j, hj with | 0, _ => exact a0 | 1, _ => exact a1) h⟩
      have D3 : Aside0 (ckSv c.sv = 0 → ckOff c.off c.sv = 0 → depCheck c.ch = 0 → (ckFl c.sv c.fl ≠ 0 → R = ckFl c.sv c.fl) ∧ (ckFl c.sv c.fl = 0 → R = ckRst c)) := ⟨fun a0 a1 a2 => ⟨fun h => R1.out 3 (by omega) (fun j hj => by match j, hj with | 0, _ => exact a0 | 1, _ => exact a1 | 2, _ => exact a2) h, fun a3 => by
        by_cases h : ckRst c = 0
        · rw [h]; exact R3.out (fun j hj => by match j, hj with | 0, _ => exact a0 | 1, _ => exact a1 | 2, _ => exact a2 | 3, _ => exact a3 | 4, _ => exact h)
        · exact R1.out 4 (by omega) (fun j hj => by match j, hj with | 0, _ => exact a0 | 1, _ => exact a1 | 2, _ => exact a2 | 3, _ => exact a3) h⟩⟩
      have C0 := Aside0.mk (fun W (h : CfgR W ⟨A1, c1, A2, c2, A3, c3, A4, c4⟩ c) => mckS_total c ⟨A1, c1, A2, c2, A3, c3, A4, c4⟩ W h)
      have C1 := Aside0.mk (fun W (h : CfgR W ⟨A1, c1, A2, c2, A3, c3, A4, c4⟩ c) => mckO_total c ⟨A1, c1, A2, c2, A3, c3, A4, c4⟩ W h)
      have C2 := Aside0.mk (fun W (h : CfgR W ⟨A1, c1, A2, c2, A3, c3, A4, c4⟩ c) => depCheck_calls A3 c3 c.ch W h.r3)
      generalize ckSv c.sv = e0 at D0 D1 D2 D3 C0 HSO
      generalize ckOff c.off c.sv = e1 at D1 D2 D3 C1
      generalize depCheck c.ch = e2 at D2 D3 C2
      clear h1 h2 R1 R3 hT
      go_enter Try.func25, Try.ntmps25
      go_upto_region 1 with fail
      generalize w.alloc (.cells (c.cells ⟨A1, c1, A2, c2, A3, c3, A4, c4⟩) 31) = v0 at HX HB ⊢
      have q0 : v0.cell? ⟨w.heap.size, 0, none⟩ = some (.int .i64 c.seed) := (blk_cell HX.out 0).trans rfl
      go_wp2_with fail
      refine (K0.out _).mono ?_
      rintro e v1 ⟨rfl, hb1⟩
      replace HX := Aside0.mk (blk_below HX.out hb1)
      replace HB := Aside0.mk (below_step HB.out hb1)
      clear hb1 q0
      obtain ⟨q0, q1, q2, q3, q4, q5, q6, q7, q8, q9, q10, q11⟩ := cfg12 HX.out
      go_upto_region 7 with fail
      refine start_ (n := 9) (S := fun w' => Below v1.heap.size v1 w') (ds := []) #[false, false, false, false, false, false, false, false, false] (by kernel_rfl) rfl rfl (Below.refl _ _).drew (fun hHeld => ?_)
      refine with_tabW kkT.tab7 kkT.bits7 (fun HT_ HW_ => ?_)
      generalize v1.drew = wd at hHeld ⊢
      refine tk_ 0 (some 28) (bq 9 1) HT_ HW_ rfl rfl hHeld ?_ (by intro w' hS; replace q0 := below_at hS q0; replace q1 := below_at hS q1; replace q2 := below_at hS q2; replace q3 := below_at hS q3; replace q4 := below_at hS q4; replace q5 := below_at hS q5; replace q6 := below_at hS q6; replace q7 := below_at hS q7; replace q8 := below_at hS q8; replace q9 := below_at hS q9; replace q10 := below_at hS q10; replace q11 := below_at hS q11; go_simp; with_reducible rfl)
      refine tk_ 2 (some 30) (bq 9 5) HT_ HW_ rfl rfl hHeld ?_ (by intro w' hS; replace q0 := below_at hS q0; replace q1 := below_at hS q1; replace q2 := below_at hS q2; replace q3 := below_at hS q3; replace q4 := below_at hS q4; replace q5 := below_at hS q5; replace q6 := below_at hS q6; replace q7 := below_at hS q7; replace q8 := below_at hS q8; replace q9 := below_at hS q9; replace q10 := below_at hS q10; replace q11 := below_at hS q11; go_simp; with_reducible rfl)
      refine pu_ 4 (some 32) (bq 9 21) HT_ rfl rfl ?_
      refine tk_ 5 (some 33) (bq 9 53) HT_ HW_ rfl rfl hHeld ?_ (by intro w' hS; replace q3 := below_at hS q3; go_simp; with_reducible rfl)
      refine one_ (i := 1) (N := some 29) #[true, true, true, false, true, true, false, false, false] rfl rfl (one_of HT_.out (by kernel_rfl)) (by decide) (fun K hK => ?_)
      refine goes_ Try.func48 (by kernel_rfl) rfl #[c.val ⟨A1, c1, A2, c2, A3, c3, A4, c4⟩] (by rfl) rfl rfl (by (try simp only [List.map_toArray, List.map_cons, List.map_nil]); first | done | rfl) ?_
      with_reducible refine (C0.out _ (HR.out.below (below_step HB.out hHeld))).mono ?_
      rintro e wx1 ⟨rfl, hb⟩
      refine ⟨_, rfl, ?_⟩
      replace hHeld := below_step hHeld hb
      clear hb
      refine hK.out _ _ hHeld (fun hHeld => ?_)
      clear hK K
      refine norm_ (a' := ?_) ?_ ?_
      rotate_left
      · show Act.put _ (some 29) _ = _
        simp only [Act.put, List.setIfInBounds_toArray, List.set_cons_zero, List.set_cons_succ, i64_w, i32_w]
        rfl
      refine one_ (i := 3) (N := some 31) #[true, true, true, true, true, true, false, false, false] rfl rfl (one_of HT_.out (by kernel_rfl)) (by decide) (fun K hK => ?_)
      refine goes_ Try.func49 (by kernel_rfl) rfl #[c.val ⟨A1, c1, A2, c2, A3, c3, A4, c4⟩] (by rfl) rfl rfl (by (try simp only [List.map_toArray, List.map_cons, List.map_nil]); first | done | rfl) ?_
      with_reducible refine (C1.out _ (HR.out.below (below_step HB.out hHeld))).mono ?_
      rintro e wx2 ⟨rfl, hb⟩
      refine ⟨_, rfl, ?_⟩
      replace hHeld := below_step hHeld hb
      clear hb
      refine hK.out _ _ hHeld (fun hHeld => ?_)
      clear hK K
      refine norm_ (a' := ?_) ?_ ?_
      rotate_left
      · show Act.put _ (some 31) _ = _
        simp only [Act.put, List.setIfInBounds_toArray, List.set_cons_zero, List.set_cons_succ, i64_w, i32_w]
        rfl
      refine one_ (i := 6) (N := some 34) #[true, true, true, true, true, true, true, false, false] rfl rfl (one_of HT_.out (by kernel_rfl)) (by decide) (fun K hK => ?_)
      refine goes_ Try.func50 (by kernel_rfl) rfl #[.slice A3 c.ch.length c3] (by rfl) rfl rfl (by (try simp only [List.map_toArray, List.map_cons, List.map_nil]); first | done | rfl) ?_
      with_reducible refine (C2.out _ (HR.out.below (below_step HB.out hHeld))).mono ?_
      rintro e wx3 ⟨rfl, hb⟩
      refine ⟨_, rfl, ?_⟩
      replace hHeld := below_step hHeld hb
      clear hb
      refine hK.out _ _ hHeld (fun hHeld => ?_)
      clear hK K
      refine norm_ (a' := ?_) ?_ ?_
      rotate_left
      · show Act.put _ (some 34) _ = _
        simp only [Act.put, List.setIfInBounds_toArray, List.set_cons_zero, List.set_cons_succ, i64_w, i32_w]
        rfl
      refine one_ (i := 7) (N := some 35) #[true, true, true, true, true, true, true, true, false] rfl rfl (one_of HT_.out (by kernel_rfl)) (by decide) (fun K hK => ?_)
      refine event_step (w1 := World.alloc wx3 (.cells #[.int .i64 e0, .int .i64 e1, .int .i64 e2] 44)) (v := .slice (some ⟨wx3.heap.size, 0, none⟩) 3 3) (by rfl) (by go_simp) ?_
      have HY := Aside0.mk (blk_new wx3 (.cells #[.int .i64 e0, .int .i64 e1, .int .i64 e2] 44))
      refine hK.out _ _ (below_alloc hHeld _) (fun hHeld => ?_)
      clear hK K
      refine norm_ (a' := ?_) ?_ ?_
      rotate_left
      · show Act.put _ (some 35) _ = _
        simp only [Act.put, List.setIfInBounds_toArray, List.set_cons_zero, List.set_cons_succ, i64_w, i32_w]
        rfl
      refine pu_ 8 (some 3) (bq 9 511) HT_ rfl rfl ?_
      refine done_ (done_of HT_.out (by kernel_rfl)) ?_
      replace HX := Aside0.mk (blk_below HX.out hHeld)
      replace HB := Aside0.mk (below_step HB.out hHeld)
      generalize hgl : wx3.heap.size = gl at HY ⊢
      generalize World.alloc wx3 (.cells #[.int .i64 e0, .int .i64 e1, .int .i64 e2] 44) = v2 at HX HB HY ⊢
      clear hHeld hgl q0 q1 q2 q3 q4 q5 q6 q7 q8 q9 q10 q11 C0 C1 C2
      obtain ⟨wv, hwv⟩ : ∃ wv : World, wv = v2 := ⟨_, rfl⟩
      go_wp2_with fail
      go_loopg [4] 3 (fun gg s4 wr => ∃ i : Nat, i ≤ 3 ∧ 3 - i ≤ gg ∧ s4 = .int .i64 (i : Int) ∧ Aside0 (wr = v2) ∧ Aside0 (0 < i → e0 = 0) ∧ Aside0 (1 < i → e1 = 0) ∧ Aside0 (2 < i → e2 = 0))
      case atStart => exact ⟨0, by omega, by omega, by rfl, ⟨rfl⟩, ⟨fun h => absurd h (by omega)⟩, ⟨fun h => absurd h (by omega)⟩, ⟨fun h => absurd h (by omega)⟩⟩
      case round =>
      obtain ⟨i, hi, hgi, rfl, hw, Z0, Z1, Z2⟩ := hrel
      have hw' := hw.out.symm
      subst hw'
      clear hw
      by_cases hlt : i < 3
      · match i, hlt with
        | 0, _ =>
          have y0 : v2.cell? ⟨gl, 0, none⟩ = some (.int .i64 e0) := (blk_cell HY.out 0).trans rfl
          by_cases he : e0 = 0
          · have heb : (e0 != 0) = false := by simpa using he
            have HE := Aside0.mk he
            clear he
            go_wp2_with fail
            go_roundg (3 - (0 + 1))
            case measure => omega
            case rel => exact ⟨0 + 1, by omega, by omega, by rfl, ⟨rfl⟩, ⟨fun _ => HE.out⟩, ⟨fun h => absurd h (by omega)⟩, ⟨fun h => absurd h (by omega)⟩⟩
          · have heb : (e0 != 0) = true := by simpa using he
            have hR := D0.out he
            clear he
            go_wp2_with fail
            obtain rfl := hR
            go_ret
            exact ⟨by rfl, HB.out⟩
        | 1, _ =>
          have y1 : v2.cell? ⟨gl, 1, none⟩ = some (.int .i64 e1) := (blk_cell HY.out 1).trans rfl
          by_cases he : e1 = 0
          · have heb : (e1 != 0) = false := by simpa using he
            have HE := Aside0.mk he
            clear he
            go_wp2_with fail
            go_roundg (3 - (1 + 1))
            case measure => omega
            case rel => exact ⟨1 + 1, by omega, by omega, by rfl, ⟨rfl⟩, ⟨fun h => Z0.out (by omega)⟩, ⟨fun _ => HE.out⟩, ⟨fun h => absurd h (by omega)⟩⟩
          · have heb : (e1 != 0) = true := by simpa using he
            have hR := D1.out (Z0.out (by omega)) he
            clear he
            go_wp2_with fail
            obtain rfl := hR
            go_ret
            exact ⟨by rfl, HB.out⟩
        | 2, _ =>
          have y2 : v2.cell? ⟨gl, 2, none⟩ = some (.int .i64 e2) := (blk_cell HY.out 2).trans rfl
          by_cases he : e2 = 0
          · have heb : (e2 != 0) = false := by simpa using he
            have HE := Aside0.mk he
            clear he
            go_wp2_with fail
            go_roundg (3 - (2 + 1))
            case measure => omega
            case rel => exact ⟨2 + 1, by omega, by omega, by rfl, ⟨rfl⟩, ⟨fun h => Z0.out (by omega)⟩, ⟨fun h => Z1.out (by omega)⟩, ⟨fun _ => HE.out⟩⟩
          · have heb : (e2 != 0) = true := by simpa using he
            have hR := D2.out (Z0.out (by omega)) (Z1.out (by omega)) he
            clear he
            go_wp2_with fail
            obtain rfl := hR
            go_ret
            exact ⟨by rfl, HB.out⟩
      · obtain rfl : i = 3 := by omega
        have HD3 := Aside0.mk (D3.out (Z0.out (by omega)) (Z1.out (by omega)) (Z2.out (by omega)))
        have HSV := Aside0.mk (HSO.out (Z0.out (by omega)))
        clear D0 D1 D2 D3 Z0 Z1 Z2 HY HSO hlt hi hgi
        have q4 : v2.cell? ⟨w.heap.size, 4, none⟩ = some (.slice A4 c.fl.length c4) := (blk_cell HX.out 4).trans rfl
        go_wp2_with fail
        clear q4
        go_loopg [5, 6] c.fl.length (fun gg s5 s6 wr => ∃ i : Nat, i ≤ c.fl.length ∧ c.fl.length - i ≤ gg ∧ s5 = .int .i64 (i : Int) ∧ Aside0 (wr.heap[w.heap.size]? = some (.cells (c.cells ⟨A1, c1, A2, c2, A3, c3, A4, c4⟩) 31 (0, 0))) ∧ Aside0 (Below w.heap.size w wr) ∧ Aside0 (∀ j, j < i → flE c.sv c.fl j = 0))
        case atStart => exact ⟨0, Nat.zero_le _, by omega, rfl, HX, HB, ⟨fun j hj => absurd hj (Nat.not_lt_zero _)⟩⟩
        case round =>
        clear HX HB
        obtain ⟨i, hi, hgi, rfl, HX, HB, AN⟩ := hrel
        have q4 : wr.cell? ⟨w.heap.size, 4, none⟩ = some (.slice A4 c.fl.length c4) := (blk_cell HX.out 4).trans rfl
        by_cases hlt : i < c.fl.length
        · have HH : Aside0 (∀ v, flX (svIdx c.sv (rd_T61 c.fl i).f0) (nameB (rd_T61 c.fl i).f1) (rd_T61 c.fl i) = v → v ≠ 0 → R = v) := ⟨fun v hv h0 => by
            have h1 : flE c.sv c.fl i = v := hv
            have h2 : ckFl c.sv c.fl = v := (fstE_hit _ i AN.out (by rw [h1]; exact h0) _ hlt).trans h1
            rw [← h2]; exact HD3.out.1 (by rw [h2]; exact h0)⟩
          have HZ : Aside0 (flX (svIdx c.sv (rd_T61 c.fl i).f0) (nameB (rd_T61 c.fl i).f1) (rd_T61 c.fl i) = 0 → ∀ j, j < i + 1 → flE c.sv c.fl j = 0) := ⟨ext0 (flE c.sv c.fl) i AN.out⟩
          obtain ⟨ad, e, t0, t1, t2, t3, t4, t5⟩ := at_T61 HR.out.r4 (i : Int) (by omega) (by omega)
          dsimp only at e
          subst e
          simp only [Int.toNat_natCast] at t0 t1 t2 t3 t4 t5
          replace t0 := (HB.out.cell (World.block_lt_of_cell? _ _ t0)).trans t0
          replace t1 := (HB.out.cell (World.block_lt_of_cell? _ _ t1)).trans t1
          replace t2 := (HB.out.cell (World.block_lt_of_cell? _ _ t2)).trans t2
          replace t3 := (HB.out.cell (World.block_lt_of_cell? _ _ t3)).trans t3
          replace t4 := (HB.out.cell (World.block_lt_of_cell? _ _ t4)).trans t4
          replace t5 := (HB.out.cell (World.block_lt_of_cell? _ _ t5)).trans t5
          have HI := Aside0.mk (fun W (p : CfgAt) (h : CfgR W p c) => mindex_calls c p (rd_T61 c.fl i).f0 W h)
          have HNB := Aside0.mk (fun W => nameB_calls (rd_T61 c.fl i).f1 W)
          generalize svIdx c.sv (rd_T61 c.fl i).f0 = ix at HH HZ HI
          generalize nameB (rd_T61 c.fl i).f1 = nb at HH HZ HNB
          generalize rd_T61 c.fl (i : Int) = x at t0 t1 t2 t3 t4 t5 HH HZ HI HNB
          have hz1 : (i : Int) < (c.fl.length : Int) := by omega
          have s1 : IntKind.i64.wrap ((i : Int) + 1) = (i : Int) + 1 := IntWalk.i64_in _ (by omega)
          clear AN
          have K1 := Aside0.mk (fun W => ranged_calls x.f3 0 1048576 W)
          obtain ⟨b1, hb1_⟩ : ∃ b, b = bad x.f3 0 1048576 := ⟨_, rfl⟩
          rw [← hb1_] at K1
          have E1 := Aside0.mk hb1_
          clear hb1_
          have K2 := Aside0.mk (fun W => ranged_calls x.f4 0 1000000 W)
          obtain ⟨b2, hb2_⟩ : ∃ b, b = bad x.f4 0 1000000 := ⟨_, rfl⟩
          rw [← hb2_] at K2
          have E2 := Aside0.mk hb2_
          clear hb2_
          go_upto_region 17 with fail
          clear q4
          replace HX := Aside0.mk (blk_alloc HX.out (.cells #[.string x.f0, .string x.f1, .int .i64 x.f2.f0, .int .i64 x.f2.f1, .int .i64 x.f3, .int .i64 x.f4] 61))
          have HY := Aside0.mk (blk_new wr (.cells #[.string x.f0, .string x.f1, .int .i64 x.f2.f0, .int .i64 x.f2.f1, .int .i64 x.f3, .int .i64 x.f4] 61))
          replace HB := Aside0.mk (below_alloc HB.out (.cells #[.string x.f0, .string x.f1, .int .i64 x.f2.f0, .int .i64 x.f2.f1, .int .i64 x.f3, .int .i64 x.f4] 61))
          clear t0 t1 t2 t3 t4 t5
          generalize hgb : wr.heap.size = gb at HY ⊢
          generalize wr.alloc (.cells #[.string x.f0, .string x.f1, .int .i64 x.f2.f0, .int .i64 x.f2.f1, .int .i64 x.f3, .int .i64 x.f4] 61) = v0 at HX HY HB ⊢
          obtain ⟨q0, q1, q2, q3, q4, q5, q6, q7, q8, q9, q10, q11⟩ := cfg12 HX.out
          have y0 : v0.cell? ⟨gb, 0, none⟩ = some (.string x.f0) := (blk_cell HY.out 0).trans rfl
          go_wp2_with fail
          refine (HI.out _ ⟨A1, c1, A2, c2, A3, c3, (some ad), c4⟩ (HR.out.below HB.out)).mono ?_
          rintro e v21 ⟨rfl, hb1⟩
          replace HX := Aside0.mk (blk_below HX.out hb1)
          replace HY := Aside0.mk (blk_below HY.out hb1)
          replace HB := Aside0.mk (below_step HB.out hb1)
          clear hb1 y0 q0 q1 q2 q3 q4 q5 q6 q7 q8 q9 q10 q11
          by_cases hix : ix < 0
          · have hix_1 : decide (ix < 0) = true := decide_eq_true hix
            have hix_2 : (ix < 0) = True := eq_true hix
            go_wp2_with fail
            obtain rfl := HH.out 16 (by simp [flX, hix]) (by decide)
            go_ret
            exact ⟨by rfl, HB.out⟩
          · have hix_1 : decide (ix < 0) = false := decide_eq_false hix
            have hix_2 : (ix < 0) = False := eq_false hix
            have y1 : v21.cell? ⟨gb, 1, none⟩ = some (.string x.f1) := (blk_cell HY.out 1).trans rfl
            go_upto_region 19 with fail
            obtain ⟨nk, hnk⟩ : ∃ nk : Bool, nk = (!x.f1.toList.isEmpty && !nb) := ⟨_, rfl⟩
            have HNK := Aside0.mk hnk
            clear hnk
            go_cut [69] (fun s69 wz => s69 = .bool nk ∧ Aside0 (wz.heap[w.heap.size]? = some (.cells (c.cells ⟨A1, c1, A2, c2, A3, c3, (some ad), c4⟩) 31 (0, 0))) ∧ Aside0 (wz.heap[gb]? = some (.cells #[.string x.f0, .string x.f1, .int .i64 x.f2.f0, .int .i64 x.f2.f1, .int .i64 x.f3, .int .i64 x.f4] 61 (0, 0))) ∧ Aside0 (Below w.heap.size w wz))
            case first =>
              cases hE : x.f1.toList.isEmpty with
              | true =>
                obtain rfl : nk = false := by rw [HNK.out, hE]; rfl
                go_wp2_with fail
                go_meet
                exact ⟨rfl, HX, HY, HB⟩
              | false =>
                obtain rfl : nk = !nb := by rw [HNK.out, hE]; simp
                go_wp2_with fail
                refine (HNB.out _).mono ?_
                rintro e v22 ⟨rfl, hb1⟩
                replace HX := Aside0.mk (blk_below HX.out hb1)
                replace HY := Aside0.mk (blk_below HY.out hb1)
                replace HB := Aside0.mk (below_step HB.out hb1)
                clear hb1 y1
                go_wp2_with fail
                go_meet
                exact ⟨by simp, HX, HY, HB⟩
            case rest =>
            clear HX HY HB y1
            obtain ⟨rfl, HX, HY, HB⟩ := hcut
            have y2 : wc.cell? ⟨gb, 2, none⟩ = some (.int .i64 x.f2.f0) := (blk_cell HY.out 2).trans rfl
            have y3 : wc.cell? ⟨gb, 3, none⟩ = some (.int .i64 x.f2.f1) := (blk_cell HY.out 3).trans rfl
            cases nk with
            | true =>
              have hE : x.f1.toList ≠ [] ∧ nb = false := by
                have h := HNK.out
                cases hb : nb with
                | true => rw [hb] at h; simp at h
                | false => rw [hb] at h; simpa using h
              clear HNK
              go_wp2_with fail
              obtain rfl := HH.out 11 (by simp [flX, hix, hE.1, hE.2]) (by decide)
              go_ret
              exact ⟨by rfl, HB.out⟩
            | false =>
              have hE : ¬ (x.f1.toList ≠ [] ∧ nb = false) := fun h => by
                have h2 := HNK.out
                rw [h.2] at h2
                simp at h2
                exact h.1 h2
              have HE := Aside0.mk hE
              clear HNK hE
              by_cases h1 : x.f2.f0 < 0
              · have h1_1 : decide (x.f2.f0 < 0) = true := decide_eq_true h1
                have h1_2 : (x.f2.f0 < 0) = True := eq_true h1
                have hcase : flX ix nb x = 32 := by unfold flX; rw [if_neg (by omega), if_neg HE.out, if_pos (by omega)]
                go_wp2_with fail
                obtain rfl := HH.out 32 hcase (by decide)
                go_ret
                exact ⟨by rfl, HB.out⟩
              · have h1_1 : decide (x.f2.f0 < 0) = false := decide_eq_false h1
                have h1_2 : (x.f2.f0 < 0) = False := eq_false h1
                by_cases h2 : x.f2.f1 ≤ x.f2.f0
                · have h2_1 : decide (x.f2.f1 ≤ x.f2.f0) = true := decide_eq_true h2
                  have h2_2 : (x.f2.f1 ≤ x.f2.f0) = True := eq_true h2
                  have hcase : flX ix nb x = 32 := by unfold flX; rw [if_neg (by omega), if_neg HE.out, if_pos (by omega)]
                  go_wp2_with fail
                  obtain rfl := HH.out 32 hcase (by decide)
                  go_ret
                  exact ⟨by rfl, HB.out⟩
                · have h2_1 : decide (x.f2.f1 ≤ x.f2.f0) = false := decide_eq_false h2
                  have h2_2 : (x.f2.f1 ≤ x.f2.f0) = False := eq_false h2
                  by_cases h3 : 1048577 < x.f2.f1
                  · have h3_1 : decide (1048577 < x.f2.f1) = true := decide_eq_true h3
                    have h3_2 : (1048577 < x.f2.f1) = True := eq_true h3
                    have hcase : flX ix nb x = 32 := by unfold flX; rw [if_neg (by omega), if_neg HE.out, if_pos (by omega)]
                    go_wp2_with fail
                    obtain rfl := HH.out 32 hcase (by decide)
                    go_ret
                    exact ⟨by rfl, HB.out⟩
                  · have h3_1 : decide (1048577 < x.f2.f1) = false := decide_eq_false h3
                    have h3_2 : (1048577 < x.f2.f1) = False := eq_false h3
                    have h123 : ¬ (x.f2.f0 < 0 ∨ x.f2.f1 ≤ x.f2.f0 ∨ 1048577 < x.f2.f1) := by omega
                    have HF : Aside0 (flX ix nb x = if (bad x.f3 0 1048576 || bad x.f4 0 1000000) = true then 2 else 0) := ⟨by unfold flX; rw [if_neg (by omega), if_neg HE.out, if_neg h123]⟩
                    have y4 : wc.cell? ⟨gb, 4, none⟩ = some (.int .i64 x.f3) := (blk_cell HY.out 4).trans rfl
                    go_wp2_with fail
                    refine (K1.out _).mono ?_
                    rintro e v23 ⟨rfl, hb1⟩
                    replace HX := Aside0.mk (blk_below HX.out hb1)
                    replace HY := Aside0.mk (blk_below HY.out hb1)
                    replace HB := Aside0.mk (below_step HB.out hb1)
                    clear hb1 y2 y3 y4 K1
                    cases b1 with
                    | true =>
                      go_wp2_with fail
                      obtain rfl := HH.out 2 (by rw [HF.out, ← E1.out]; rfl) (by decide)
                      go_ret
                      exact ⟨by rfl, HB.out⟩
                    | false =>
                      have y5 : v23.cell? ⟨gb, 5, none⟩ = some (.int .i64 x.f4) := (blk_cell HY.out 5).trans rfl
                      go_wp2_with fail
                      refine (K2.out _).mono ?_
                      rintro e v24 ⟨rfl, hb1⟩
                      replace HX := Aside0.mk (blk_below HX.out hb1)
                      replace HY := Aside0.mk (blk_below HY.out hb1)
                      replace HB := Aside0.mk (below_step HB.out hb1)
                      clear hb1 y5 K2
                      cases b2 with
                      | true =>
                        go_wp2_with fail
                        obtain rfl := HH.out 2 (by rw [HF.out, ← E1.out, ← E2.out]; rfl) (by decide)
                        go_ret
                        exact ⟨by rfl, HB.out⟩
                      | false =>
                        have AN1 := Aside0.mk (HZ.out (by rw [HF.out, ← E1.out, ← E2.out]; rfl))
                        go_wp2_with fail
                        go_roundg (c.fl.length - (i + 1))
                        case measure => omega
                        case rel => exact ⟨i + 1, by omega, by omega, by first | rfl | go_num, HX, HB, AN1⟩
        · obtain rfl : i = c.fl.length := by omega
          have hz1 : decide (c.fl.length < c.fl.length) = false := by simp
          have hz2 : decide ((c.fl.length : Int) < (c.fl.length : Int)) = false := by simp
          clear hlt
          have HRR : Aside0 (∀ v, ckRst c = v → R = v) := ⟨fun v h => (HD3.out.2 (fstE_zero _ _ AN.out)).trans h⟩
          clear AN HD3
          go_upto_region 25 with fail
          clear q4 hz1 hz2
          have q5 : wr.cell? ⟨w.heap.size, 5, none⟩ = some (.int .i64 c.sfrom) := (blk_cell HX.out 5).trans rfl
          have q6 : wr.cell? ⟨w.heap.size, 6, none⟩ = some (.int .i64 c.sto) := (blk_cell HX.out 6).trans rfl
          by_cases h1 : c.sfrom < 0
          · have h1_1 : decide (c.sfrom < 0) = true := decide_eq_true h1
            have h1_2 : (c.sfrom < 0) = True := eq_true h1
            have hcase : ckRst c = 32 := by unfold ckRst; rw [if_pos (by omega)]
            go_wp2_with fail
            obtain rfl := HRR.out 32 hcase
            go_ret
            exact ⟨by rfl, HB.out⟩
          · have h1_1 : decide (c.sfrom < 0) = false := decide_eq_false h1
            have h1_2 : (c.sfrom < 0) = False := eq_false h1
            by_cases h2 : c.sto < c.sfrom
            · have h2_1 : decide (c.sto < c.sfrom) = true := decide_eq_true h2
              have h2_2 : (c.sto < c.sfrom) = True := eq_true h2
              have hcase : ckRst c = 32 := by unfold ckRst; rw [if_pos (by omega)]
              go_wp2_with fail
              obtain rfl := HRR.out 32 hcase
              go_ret
              exact ⟨by rfl, HB.out⟩
            · have h2_1 : decide (c.sto < c.sfrom) = false := decide_eq_false h2
              have h2_2 : (c.sto < c.sfrom) = False := eq_false h2
              by_cases h3 : 1048576 < c.sto
              · have h3_1 : decide (1048576 < c.sto) = true := decide_eq_true h3
                have h3_2 : (1048576 < c.sto) = True := eq_true h3
                have hcase : ckRst c = 32 := by unfold ckRst; rw [if_pos (by omega)]
                go_wp2_with fail
                obtain rfl := HRR.out 32 hcase
                go_ret
                exact ⟨by rfl, HB.out⟩
              · have h3_1 : decide (1048576 < c.sto) = false := decide_eq_false h3
                have h3_2 : (1048576 < c.sto) = False := eq_false h3
                have a4 : IntKind.i64.wrap (c.sto - c.sfrom) = c.sto - c.sfrom := IntWalk.i64_in _ (by omega)
                have HRG : Aside0 (0 ≤ c.sfrom ∧ c.sfrom ≤ c.sto ∧ c.sto ≤ 1048576) := ⟨by omega⟩
                by_cases h4 : 64 < c.sto - c.sfrom
                · have h4_1 : decide (64 < c.sto - c.sfrom) = true := decide_eq_true h4
                  have h4_2 : (64 < c.sto - c.sfrom) = True := eq_true h4
                  have hcase : ckRst c = 6 := by unfold ckRst; rw [if_neg (by omega), if_pos (by omega)]
                  go_wp2_with fail
                  obtain rfl := HRR.out 6 hcase
                  go_ret
                  exact ⟨by rfl, HB.out⟩
                · have h4_1 : decide (64 < c.sto - c.sfrom) = false := decide_eq_false h4
                  have h4_2 : (64 < c.sto - c.sfrom) = False := eq_false h4
                  have HCK : Aside0 (ckRst c = if (bad c.per 0 16 || bad c.delay 0 1048576 || bad c.chunk 1 64 || bad c.loss 0 1000000 || bad c.rep 0 1000000) = true then 2 else if 256 < cntOf c.sv then 6 else 0) := ⟨by unfold ckRst; rw [if_neg (by omega), if_neg (by omega)]⟩
                  have K1 := Aside0.mk (fun W => ranged_calls c.per 0 16 W)
                  obtain ⟨b1, hb1_⟩ : ∃ b, b = bad c.per 0 16 := ⟨_, rfl⟩
                  rw [← hb1_] at K1
                  have E1 := Aside0.mk hb1_
                  clear hb1_
                  have K2 := Aside0.mk (fun W => ranged_calls c.delay 0 1048576 W)
                  obtain ⟨b2, hb2_⟩ : ∃ b, b = bad c.delay 0 1048576 := ⟨_, rfl⟩
                  rw [← hb2_] at K2
                  have E2 := Aside0.mk hb2_
                  clear hb2_
                  have K3 := Aside0.mk (fun W => ranged_calls c.chunk 1 64 W)
                  obtain ⟨b3, hb3_⟩ : ∃ b, b = bad c.chunk 1 64 := ⟨_, rfl⟩
                  rw [← hb3_] at K3
                  have E3 := Aside0.mk hb3_
                  clear hb3_
                  have K4 := Aside0.mk (fun W => ranged_calls c.loss 0 1000000 W)
                  obtain ⟨b4, hb4_⟩ : ∃ b, b = bad c.loss 0 1000000 := ⟨_, rfl⟩
                  rw [← hb4_] at K4
                  have E4 := Aside0.mk hb4_
                  clear hb4_
                  have K5 := Aside0.mk (fun W => ranged_calls c.rep 0 1000000 W)
                  obtain ⟨b5, hb5_⟩ : ∃ b, b = bad c.rep 0 1000000 := ⟨_, rfl⟩
                  rw [← hb5_] at K5
                  have E5 := Aside0.mk hb5_
                  clear hb5_
                  have q7 : wr.cell? ⟨w.heap.size, 7, none⟩ = some (.int .i64 c.per) := (blk_cell HX.out 7).trans rfl
                  go_wp2_with fail
                  refine (K1.out _).mono ?_
                  rintro e v41 ⟨rfl, hb1⟩
                  replace HX := Aside0.mk (blk_below HX.out hb1)
                  replace HB := Aside0.mk (below_step HB.out hb1)
                  clear hb1 q7 K1 q5 q6
                  cases b1 with
                  | true =>
                    go_wp2_with fail
                    obtain rfl := HRR.out 2 (by rw [HCK.out, if_pos (by simp [← E1.out])])
                    go_ret
                    exact ⟨by rfl, HB.out⟩
                  | false =>
                    have q8 : v41.cell? ⟨w.heap.size, 8, none⟩ = some (.int .i64 c.delay) := (blk_cell HX.out 8).trans rfl
                    go_wp2_with fail
                    refine (K2.out _).mono ?_
                    rintro e v42 ⟨rfl, hb1⟩
                    replace HX := Aside0.mk (blk_below HX.out hb1)
                    replace HB := Aside0.mk (below_step HB.out hb1)
                    clear hb1 q8 K2
                    cases b2 with
                    | true =>
                      go_wp2_with fail
                      obtain rfl := HRR.out 2 (by rw [HCK.out, if_pos (by simp [← E1.out, ← E2.out])])
                      go_ret
                      exact ⟨by rfl, HB.out⟩
                    | false =>
                      have q9 : v42.cell? ⟨w.heap.size, 9, none⟩ = some (.int .i64 c.chunk) := (blk_cell HX.out 9).trans rfl
                      go_wp2_with fail
                      refine (K3.out _).mono ?_
                      rintro e v43 ⟨rfl, hb1⟩
                      replace HX := Aside0.mk (blk_below HX.out hb1)
                      replace HB := Aside0.mk (below_step HB.out hb1)
                      clear hb1 q9 K3
                      cases b3 with
                      | true =>
                        go_wp2_with fail
                        obtain rfl := HRR.out 2 (by rw [HCK.out, if_pos (by simp [← E1.out, ← E2.out, ← E3.out])])
                        go_ret
                        exact ⟨by rfl, HB.out⟩
                      | false =>
                        have q10 : v43.cell? ⟨w.heap.size, 10, none⟩ = some (.int .i64 c.loss) := (blk_cell HX.out 10).trans rfl
                        go_wp2_with fail
                        refine (K4.out _).mono ?_
                        rintro e v44 ⟨rfl, hb1⟩
                        replace HX := Aside0.mk (blk_below HX.out hb1)
                        replace HB := Aside0.mk (below_step HB.out hb1)
                        clear hb1 q10 K4
                        cases b4 with
                        | true =>
                          go_wp2_with fail
                          obtain rfl := HRR.out 2 (by rw [HCK.out, if_pos (by simp [← E1.out, ← E2.out, ← E3.out, ← E4.out])])
                          go_ret
                          exact ⟨by rfl, HB.out⟩
                        | false =>
                          have q11 : v44.cell? ⟨w.heap.size, 11, none⟩ = some (.int .i64 c.rep) := (blk_cell HX.out 11).trans rfl
                          go_wp2_with fail
                          refine (K5.out _).mono ?_
                          rintro e v45 ⟨rfl, hb1⟩
                          replace HX := Aside0.mk (blk_below HX.out hb1)
                          replace HB := Aside0.mk (below_step HB.out hb1)
                          clear hb1 q11 K5
                          cases b5 with
                          | true =>
                            go_wp2_with fail
                            obtain rfl := HRR.out 2 (by rw [HCK.out, if_pos (by simp [← E1.out, ← E2.out, ← E3.out, ← E4.out, ← E5.out])])
                            go_ret
                            exact ⟨by rfl, HB.out⟩
                          | false =>
                            replace HCK : Aside0 (ckRst c = if 256 < cntOf c.sv then 6 else 0) := ⟨by rw [HCK.out, if_neg (by simp [← E1.out, ← E2.out, ← E3.out, ← E4.out, ← E5.out])]⟩
                            obtain ⟨q0, q1, q2, q3, q4, q5, q6, q7, q8, q9, q10, q11⟩ := cfg12 HX.out
                            go_wp2_with fail
                            refine (mcount_calls c ⟨A1, c1, A2, c2, A3, c3, A4, c4⟩ _ (HR.out.below HB.out) HSV.out hne).mono ?_
                            rintro e v9 ⟨rfl, hb1⟩
                            replace HB := Aside0.mk (below_step HB.out hb1)
                            generalize cntOf c.sv = cn at HCK ⊢
                            clear hb1 q0 q1 q2 q3 q4 q5 q6 q7 q8 q9 q10 q11
                            by_cases hcn : 256 < cn
                            · have hcn_1 : decide (256 < cn) = true := decide_eq_true hcn
                              have hcn_2 : (256 < cn) = True := eq_true hcn
                              have hcase : ckRst c = 6 := by rw [HCK.out, if_pos (by omega)]
                              go_wp2_with fail
                              obtain rfl := HRR.out 6 hcase
                              go_ret
                              exact ⟨by rfl, HB.out⟩
                            · have hcn_1 : decide (256 < cn) = false := decide_eq_false hcn
                              have hcn_2 : (256 < cn) = False := eq_false hcn
                              have hcase : ckRst c = 0 := by rw [HCK.out, if_neg (by omega)]
                              go_wp2_with fail
                              obtain rfl := HRR.out 0 hcase
                              go_ret
                              exact ⟨by rfl, HB.out⟩
end Go.Proofs.Ytdadnapfecmmdaa.P
