/- Own texts of a proof about layer 55's simulate (merged): Kn, Kc, Ki, Ks, Ko, Kf. -/
import Derived.Test.YtdadnapfecmmdaaYc16
import Derived.Test.YtdadnapfecmmdaaYc2
import Derived.Test.YtdadnapfecmmdaaYc7
import Derived.Test.YtdadnapfecmmdaaYc8
import Derived.Test.YtdadnapfecmmdaaYc9
namespace Go.Proofs.Ytdadnapfecmmdaa.P
set_option linter.unusedVariables false
set_option linter.unusedSimpArgs false
open Go.RowKit Go.Proofs.YtdadnapfecmmdaaW.PrintWords Go.Proofs.YtdadnapfecmmdaaW.PrintLast Go.Proofs.YtdadnapfecmmdaaW.PrintMore
open Go.Proofs.Ytdadnapfecmmdaa.Hm
theorem below_cell {W w' : World} {x : Addr} {v : Value} (hS : Below W.heap.size W w') (h : W.cell? x = some v) : w'.cell? x = some v := (hS.cell (World.block_lt_of_cell? _ _ h)).trans h
def knT.T6 : Bool × List (List Nat × List Nat) := (true, [([], []), ([0], [0]), ([1], [1]), ([2], [2]), ([3, 2], [2, 3]), ([2], [2]), ([4, 5, 2], [2, 4, 5]), ([6, 2], [2, 6]), ([7, 2], [2, 7]), ([2], [2]), ([9, 2], [2, 9]), ([2], [2]), ([11, 2], [2, 11]), ([10, 12, 2], [2, 10, 12]), ([13, 2], [2, 13]), ([14, 2], [2, 14]), ([8, 15, 2], [2, 8, 15]), ([2, 16], [2, 16])])
def knT.B6 : List Nat := [0, 1, 3, 7, 15, 7, 63, 127, 255, 7, 519, 7, 2055, 7687, 15879, 32263, 65535, 131071]
theorem knT.tab6 : rtab .any (opsOf Try.f49 6) = knT.T6 := by kernel_rfl
theorem knT.bits6 : waitsOk knT.T6.2 knT.B6 = true := by kernel_rfl
def knT.T11 : Bool × List (List Nat × List Nat) := (true, [([], []), ([], []), ([1], [1]), ([], []), ([2, 3], [2, 3]), ([4], [4]), ([5], [5]), ([0, 6], [0, 6]), ([7], [7]), ([8], [8]), ([8], [8]), ([9, 7, 0, 1, 2, 3, 4, 5, 6, 7, 8, 9], [9]), ([10, 11, 0, 1, 2, 3, 4, 5, 6, 7, 8, 9, 10, 11], [10])])
def knT.B11 : List Nat := [0, 0, 2, 0, 14, 30, 62, 127, 255, 511, 511, 1023, 4095]
theorem knT.tab11 : rtab .any (opsOf Try.f49 11) = knT.T11 := by kernel_rfl
theorem knT.bits11 : waitsOk knT.T11.2 knT.B11 = true := by kernel_rfl
set_option maxHeartbeats 8000000 in
set_option maxRecDepth 100000 in
theorem mckO_total (c : Cfg) (p : CfgAt) (w : World) (hR : CfgR w p c) : Calls Try.prog 49 #[c.val p] w fun e w' => e = .returned (.int .i64 (ckOff c.off c.sv)) ∧ Below w.heap.size w w' := by
  obtain ⟨A1, c1, A2, c2, A3, c3, A4, c4⟩ := p
  have HR := Aside0.mk hR
  have hn1 : c.sv.length ≤ 9223372036854775807 := hR.r1.2.1
  have hn2 : c.off.length ≤ 9223372036854775807 := hR.r2.2.1
  have hn4 : c.fl.length ≤ 9223372036854775807 := hR.r4.2.1
  have HX0 := Aside0.mk (blk_new w (.cells (c.cells ⟨A1, c1, A2, c2, A3, c3, A4, c4⟩) 31))
  have HB0 := Aside0.mk (below_alloc (Below.refl w.heap.size w) (.cells (c.cells ⟨A1, c1, A2, c2, A3, c3, A4, c4⟩) 31))
  obtain ⟨R1, R2, R3⟩ := first2 (offE c.off) (gapE c.off c.sv) c.off.length c.sv.length _ ((rfl : ckOff c.off c.sv = _))
  generalize ckOff c.off c.sv = R at R1 R2 R3 ⊢
  replace R1 := Aside0.mk R1
  replace R2 := Aside0.mk R2
  replace R3 := Aside0.mk R3
  clear hR
  go_enter Try.func49, Try.ntmps49
  go_wp2_with fail
  go_loopg [3] c.off.length (fun gg s3 wr => ∃ i : Nat, i ≤ c.off.length ∧ c.off.length - i ≤ gg ∧ s3 = .int .i64 (i : Int) ∧ Aside0 (wr.heap[w.heap.size]? = some (.cells (c.cells ⟨A1, c1, A2, c2, A3, c3, A4, c4⟩) 31 (0, 0))) ∧ Aside0 (Below w.heap.size w wr) ∧ Aside0 (∀ j, j < i → offE c.off j = 0))
  case atStart => exact ⟨0, Nat.zero_le _, by omega, rfl, HX0, HB0, ⟨fun j hj => absurd hj (Nat.not_lt_zero _)⟩⟩
  case round =>
  clear HX0 HB0
  obtain ⟨i, hi, hgi, rfl, HX, HB, AN⟩ := hrel
  by_cases hlt : i < c.off.length
  · have HH : Aside0 (∀ v, offX (rd_T91 c.off i) (rd_T91 c.off ((i : Int) - 1)).f0 i = v → v ≠ 0 → R = v) := ⟨fun v hv h0 => by rw [← hv]; exact R1.out i hlt AN.out (by show offX _ _ _ ≠ 0; rw [hv]; exact h0)⟩
    have HZ : Aside0 (offX (rd_T91 c.off i) (rd_T91 c.off ((i : Int) - 1)).f0 i = 0 → ∀ j, j < i + 1 → offE c.off j = 0) := ⟨ext0 (offE c.off) i AN.out⟩
    obtain ⟨ad, e, t0, t1⟩ := at_T91 HR.out.r2 (i : Int) (by omega) (by omega)
    dsimp only at e
    subst e
    simp only [Int.toNat_natCast] at t0 t1
    replace t0 := (HB.out.cell (World.block_lt_of_cell? _ _ t0)).trans t0
    replace t1 := (HB.out.cell (World.block_lt_of_cell? _ _ t1)).trans t1
    have hu : Aside0 (0 < i → ∃ a2 : Addr, w.cell? (ad.add ((i - 1) * 2)) = some (.int .i64 (rd_T91 c.off ((i : Int) - 1)).f0)) := ⟨fun h => ⟨ad, by
      obtain ⟨ad2, e2, u0, -⟩ := at_T91 HR.out.r2 ((i - 1 : Nat) : Int) (by omega) (by omega)
      dsimp only at e2
      obtain rfl : ad = ad2 := by injection e2
      simp only [Int.toNat_natCast] at u0
      rw [show (i : Int) - 1 = ((i - 1 : Nat) : Int) from by omega]
      exact u0⟩⟩
    generalize (rd_T91 c.off ((i : Int) - 1)).f0 = y at HH HZ hu
    generalize rd_T91 c.off (i : Int) = x at t0 t1 HH HZ
    have hz1 : (i : Int) < (c.off.length : Int) := by omega
    have s1 : IntKind.i64.wrap ((i : Int) + 1) = (i : Int) + 1 := IntWalk.i64_in _ (by omega)
    clear AN
    have K1 := Aside0.mk (fun W => ranged_calls x.f0 1 1048576 W)
    obtain ⟨b1, hb1_⟩ : ∃ b, b = bad x.f0 1 1048576 := ⟨_, rfl⟩
    rw [← hb1_] at K1
    have E1 := Aside0.mk hb1_
    clear hb1_
    have K2 := Aside0.mk (fun W => ranged_calls x.f1 (-1048576) 1048576 W)
    obtain ⟨b2, hb2_⟩ : ∃ b, b = bad x.f1 (-1048576) 1048576 := ⟨_, rfl⟩
    rw [← hb2_] at K2
    have E2 := Aside0.mk hb2_
    clear hb2_
    have y2 : wr.cell? ⟨w.heap.size, 2, none⟩ = some (.slice (some ad) c.off.length c2) := (blk_cell HX.out 2).trans rfl
    go_wp2_with fail
    refine (K1.out _).mono ?_
    rintro e v1 ⟨rfl, hb1⟩
    replace HX := Aside0.mk (blk_below HX.out hb1)
    replace HB := Aside0.mk (below_step HB.out hb1)
    replace t0 := below_cell hb1 t0
    replace t1 := below_cell hb1 t1
    clear hb1 y2 K1
    cases b1 with
    | true =>
      go_wp2_with fail
      obtain rfl := HH.out 2 (by simp [offX, ← E1.out]) (by decide)
      go_ret
      exact ⟨by rfl, HB.out⟩
    | false =>
      have y2 : v1.cell? ⟨w.heap.size, 2, none⟩ = some (.slice (some ad) c.off.length c2) := (blk_cell HX.out 2).trans rfl
      go_wp2_with fail
      refine (K2.out _).mono ?_
      rintro e v2 ⟨rfl, hb1⟩
      replace HX := Aside0.mk (blk_below HX.out hb1)
      replace HB := Aside0.mk (below_step HB.out hb1)
      replace t0 := below_cell hb1 t0
      replace t1 := below_cell hb1 t1
      clear hb1 y2 K2
      cases b2 with
      | true =>
        go_wp2_with fail
        obtain rfl := HH.out 2 (by simp [offX, ← E1.out, ← E2.out]) (by decide)
        go_ret
        exact ⟨by rfl, HB.out⟩
      | false =>
        have y2 : v2.cell? ⟨w.heap.size, 2, none⟩ = some (.slice (some ad) c.off.length c2) := (blk_cell HX.out 2).trans rfl
        go_upto_region 6 with fail
        by_cases h0 : 0 < i
        · have h0_1 : decide (0 < i) = true := decide_eq_true h0
          have h0_2 : (0 < i) = True := eq_true h0
          obtain ⟨_, u0⟩ := hu.out h0
          replace u0 := (HB.out.cell (World.block_lt_of_cell? _ _ u0)).trans u0
          have k1 : IntKind.i64.wrap ((i : Int) - 1) = ((i - 1 : Nat) : Int) := by rw [IntWalk.i64_in _ (by omega)]; omega
          have k2 : decide ((0 : Int) < (i : Int)) = true := by simp; omega
          have k4 : ((i - 1 : Nat) : Int) < (c.off.length : Int) := by omega
          have k5 : (0 : Int) ≤ ((i - 1 : Nat) : Int) := by omega
          by_cases hy : x.f0 ≤ y
          · have hy_1 : decide (x.f0 ≤ y) = true := decide_eq_true hy
            have hy_2 : (x.f0 ≤ y) = True := eq_true hy
            refine start_ (n := 18) (S := fun w' => Below v2.heap.size v2 w') (ds := []) #[false, false, false, false, false, false, false, false, false, false, false, false, false, false, false, false, false, false] (by kernel_rfl) rfl rfl (Below.refl _ _).drew (fun hHeld => ?_)
            refine with_tabW knT.tab6 knT.bits6 (fun HT_ HW_ => ?_)
            generalize v2.drew = wd at hHeld ⊢
            refine pu_ 0 (some 32) (bq 18 1) HT_ rfl rfl ?_
            refine pu_ 1 (some 33) (bq 18 3) HT_ rfl rfl ?_
            refine pu_ 2 (some 34) (bq 18 7) HT_ rfl rfl ?_
            refine pu_ 3 (some 35) (bq 18 15) HT_ rfl rfl ?_
            refine tk_ 4 (some 36) (bq 18 31) HT_ HW_ rfl rfl hHeld ?_ (by intro w' hS; replace y2 := below_at hS y2; go_simp; with_reducible rfl)
            refine pu_ 5 (some 37) (bq 18 63) HT_ rfl rfl ?_
            refine pu_ 6 (some 38) (bq 18 127) HT_ rfl rfl ?_
            refine pu_ 7 (some 39) (bq 18 255) HT_ rfl rfl ?_
            refine tk_ 8 (some 40) (bq 18 511) HT_ HW_ rfl rfl hHeld ?_ (by intro w' hS; replace t0 := below_at hS t0; go_simp; with_reducible rfl)
            refine pu_ 9 (some 41) (bq 18 1023) HT_ rfl rfl ?_
            refine tk_ 10 (some 42) (bq 18 2047) HT_ HW_ rfl rfl hHeld ?_ (by intro w' hS; replace y2 := below_at hS y2; go_simp; with_reducible rfl)
            refine pu_ 11 (some 43) (bq 18 4095) HT_ rfl rfl ?_
            refine pu_ 12 (some 44) (bq 18 8191) HT_ rfl rfl ?_
            refine pu_ 13 (some 45) (bq 18 16383) HT_ rfl rfl ?_
            refine pu_ 14 (some 46) (bq 18 32767) HT_ rfl rfl ?_
            refine tk_ 15 (some 47) (bq 18 65535) HT_ HW_ rfl rfl hHeld ?_ (by intro w' hS; replace u0 := below_at hS u0; go_simp; with_reducible rfl)
            refine pu_ 16 (some 48) (bq 18 131071) HT_ rfl rfl ?_
            refine pu_ 17 (some 49) (bq 18 262143) HT_ rfl rfl ?_
            refine done_ (done_of HT_.out (by kernel_rfl)) ?_
            replace HX := Aside0.mk (blk_below HX.out hHeld)
            replace HB := Aside0.mk (below_step HB.out hHeld)
            clear u0 t0 t1 y2
            go_wp2_with fail
            obtain rfl := HH.out 8 (by simp [offX, ← E1.out, ← E2.out, h0, hy]) (by decide)
            go_ret
            exact ⟨by rfl, HB.out⟩
          · have hy_1 : decide (x.f0 ≤ y) = false := decide_eq_false hy
            have hy_2 : (x.f0 ≤ y) = False := eq_false hy
            refine start_ (n := 18) (S := fun w' => Below v2.heap.size v2 w') (ds := []) #[false, false, false, false, false, false, false, false, false, false, false, false, false, false, false, false, false, false] (by kernel_rfl) rfl rfl (Below.refl _ _).drew (fun hHeld => ?_)
            refine with_tabW knT.tab6 knT.bits6 (fun HT_ HW_ => ?_)
            generalize v2.drew = wd at hHeld ⊢
            refine pu_ 0 (some 32) (bq 18 1) HT_ rfl rfl ?_
            refine pu_ 1 (some 33) (bq 18 3) HT_ rfl rfl ?_
            refine pu_ 2 (some 34) (bq 18 7) HT_ rfl rfl ?_
            refine pu_ 3 (some 35) (bq 18 15) HT_ rfl rfl ?_
            refine tk_ 4 (some 36) (bq 18 31) HT_ HW_ rfl rfl hHeld ?_ (by intro w' hS; replace y2 := below_at hS y2; go_simp; with_reducible rfl)
            refine pu_ 5 (some 37) (bq 18 63) HT_ rfl rfl ?_
            refine pu_ 6 (some 38) (bq 18 127) HT_ rfl rfl ?_
            refine pu_ 7 (some 39) (bq 18 255) HT_ rfl rfl ?_
            refine tk_ 8 (some 40) (bq 18 511) HT_ HW_ rfl rfl hHeld ?_ (by intro w' hS; replace t0 := below_at hS t0; go_simp; with_reducible rfl)
            refine pu_ 9 (some 41) (bq 18 1023) HT_ rfl rfl ?_
            refine tk_ 10 (some 42) (bq 18 2047) HT_ HW_ rfl rfl hHeld ?_ (by intro w' hS; replace y2 := below_at hS y2; go_simp; with_reducible rfl)
            refine pu_ 11 (some 43) (bq 18 4095) HT_ rfl rfl ?_
            refine pu_ 12 (some 44) (bq 18 8191) HT_ rfl rfl ?_
            refine pu_ 13 (some 45) (bq 18 16383) HT_ rfl rfl ?_
            refine pu_ 14 (some 46) (bq 18 32767) HT_ rfl rfl ?_
            refine tk_ 15 (some 47) (bq 18 65535) HT_ HW_ rfl rfl hHeld ?_ (by intro w' hS; replace u0 := below_at hS u0; go_simp; with_reducible rfl)
            refine pu_ 16 (some 48) (bq 18 131071) HT_ rfl rfl ?_
            refine pu_ 17 (some 49) (bq 18 262143) HT_ rfl rfl ?_
            refine done_ (done_of HT_.out (by kernel_rfl)) ?_
            replace HX := Aside0.mk (blk_below HX.out hHeld)
            replace HB := Aside0.mk (below_step HB.out hHeld)
            clear u0 t0 t1 y2
            have AN1 := Aside0.mk (HZ.out (by simp [offX, ← E1.out, ← E2.out, h0, hy]))
            go_wp2_with fail
            go_roundg (c.off.length - (i + 1))
            case measure => omega
            case rel => exact ⟨i + 1, by omega, by omega, by first | rfl | go_num, HX, HB, AN1⟩
        · have h0_1 : decide (0 < i) = false := decide_eq_false h0
          have h0_2 : (0 < i) = False := eq_false h0
          have k2 : decide ((0 : Int) < (i : Int)) = false := by simp; omega
          refine start_ (n := 18) (S := fun w' => Below v2.heap.size v2 w') (ds := []) #[false, false, false, false, false, false, false, false, false, false, false, false, false, false, false, false, false, false] (by kernel_rfl) rfl rfl (Below.refl _ _).drew (fun hHeld => ?_)
          refine with_tabW knT.tab6 knT.bits6 (fun HT_ HW_ => ?_)
          generalize v2.drew = wd at hHeld ⊢
          refine pu_ 0 (some 32) (bq 18 1) HT_ rfl rfl ?_
          refine pu_ 1 (some 33) (bq 18 3) HT_ rfl rfl ?_
          refine pu_ 2 (some 34) (bq 18 7) HT_ rfl rfl ?_
          refine po_ 3 (some 35) (bq 18 15) HT_ rfl rfl ?_
          refine to_ 4 (some 36) (bq 18 31) HT_ HW_ rfl rfl hHeld ?_
          refine po_ 5 (some 37) (bq 18 63) HT_ rfl rfl ?_
          refine po_ 6 (some 38) (bq 18 127) HT_ rfl rfl ?_
          refine po_ 7 (some 39) (bq 18 255) HT_ rfl rfl ?_
          refine to_ 8 (some 40) (bq 18 511) HT_ HW_ rfl rfl hHeld ?_
          refine po_ 9 (some 41) (bq 18 1023) HT_ rfl rfl ?_
          refine to_ 10 (some 42) (bq 18 2047) HT_ HW_ rfl rfl hHeld ?_
          refine po_ 11 (some 43) (bq 18 4095) HT_ rfl rfl ?_
          refine po_ 12 (some 44) (bq 18 8191) HT_ rfl rfl ?_
          refine po_ 13 (some 45) (bq 18 16383) HT_ rfl rfl ?_
          refine po_ 14 (some 46) (bq 18 32767) HT_ rfl rfl ?_
          refine to_ 15 (some 47) (bq 18 65535) HT_ HW_ rfl rfl hHeld ?_
          refine po_ 16 (some 48) (bq 18 131071) HT_ rfl rfl ?_
          refine pu_ 17 (some 49) (bq 18 262143) HT_ rfl rfl ?_
          refine done_ (done_of HT_.out (by kernel_rfl)) ?_
          replace HX := Aside0.mk (blk_below HX.out hHeld)
          replace HB := Aside0.mk (below_step HB.out hHeld)
          clear t0 t1 y2
          have AN1 := Aside0.mk (HZ.out (by simp [offX, ← E1.out, ← E2.out, h0]))
          go_wp2_with fail
          go_roundg (c.off.length - (i + 1))
          case measure => omega
          case rel => exact ⟨i + 1, by omega, by omega, by first | rfl | go_num, HX, HB, AN1⟩
  · obtain rfl : i = c.off.length := by omega
    have hz1 : decide (c.off.length < c.off.length) = false := by simp
    have hz2 : decide ((c.off.length : Int) < (c.off.length : Int)) = false := by simp
    clear hlt hi hgi
    have q2 : wr.cell? ⟨w.heap.size, 2, none⟩ = some (.slice A2 c.off.length c2) := (blk_cell HX.out 2).trans rfl
    go_wp2_with fail
    clear q2
    go_loopg [4, 5, 6] c.sv.length (fun gg s4 s5 s6 wr => ∃ i : Nat, i ≤ c.sv.length ∧ c.sv.length - i ≤ gg ∧ s4 = .int .i64 (i : Int) ∧ Aside0 (wr.heap[w.heap.size]? = some (.cells (c.cells ⟨A1, c1, A2, c2, A3, c3, A4, c4⟩) 31 (0, 0))) ∧ Aside0 (Below w.heap.size w wr) ∧ Aside0 (∀ j, j < i → gapE c.off c.sv j = 0))
    case atStart => exact ⟨0, Nat.zero_le _, by omega, rfl, HX, HB, ⟨fun j hj => absurd hj (Nat.not_lt_zero _)⟩⟩
    case round =>
    clear HX HB
    clear hz1 hz2
    obtain ⟨i, hi, hgi, rfl, HX, HB, AM⟩ := hrel
    by_cases hlt : i < c.sv.length
    · have HH : Aside0 (∀ v, gapX (offOf c.off (rd_T64 c.sv i).f1).2 = v → v ≠ 0 → R = v) := ⟨fun v hv h0 => by rw [← hv]; exact R2.out AN.out i hlt AM.out (by show gapX _ ≠ 0; rw [hv]; exact h0)⟩
      have HZ : Aside0 (gapX (offOf c.off (rd_T64 c.sv i).f1).2 = 0 → ∀ j, j < i + 1 → gapE c.off c.sv j = 0) := ⟨ext0 (gapE c.off c.sv) i AM.out⟩
      obtain ⟨ad, A5, c5, e, t0, t1, t2, t3, t4, t5, l5, k5⟩ := at_T64 HR.out.r1 (i : Int) (by omega) (by omega)
      dsimp only at e
      subst e
      simp only [Int.toNat_natCast] at t0 t1 t2 t3 t4 t5
      replace t0 := (HB.out.cell (World.block_lt_of_cell? _ _ t0)).trans t0
      replace t1 := (HB.out.cell (World.block_lt_of_cell? _ _ t1)).trans t1
      replace t2 := (HB.out.cell (World.block_lt_of_cell? _ _ t2)).trans t2
      replace t3 := (HB.out.cell (World.block_lt_of_cell? _ _ t3)).trans t3
      replace t4 := (HB.out.cell (World.block_lt_of_cell? _ _ t4)).trans t4
      replace t5 := (HB.out.cell (World.block_lt_of_cell? _ _ t5)).trans t5
      clear k5
      have HO := Aside0.mk (fun W (p : CfgAt) (h : CfgR W p c) => moffset_calls c p (rd_T64 c.sv i).f1 W h)
      generalize offOf c.off (rd_T64 c.sv i).f1 = oo at HH HZ HO
      generalize rd_T64 c.sv i = x at t0 t1 t2 t3 t4 t5 l5 HO
      have hz1 : (i : Int) < (c.sv.length : Int) := by omega
      have s1 : IntKind.i64.wrap ((i : Int) + 1) = (i : Int) + 1 := IntWalk.i64_in _ (by omega)
      clear AM t0 t2 t3 t4 t5 l5
      obtain ⟨o1, o2⟩ := oo
      obtain ⟨q0, q1, q2, q3, q4, q5, q6, q7, q8, q9, q10, q11⟩ := cfg12 HX.out
      go_upto_region 11 with fail
      refine start_ (n := 13) (S := fun w' => Below wr.heap.size wr w') (ds := []) #[false, false, false, false, false, false, false, false, false, false, false, false, false] (by kernel_rfl) rfl rfl (Below.refl _ _).drew (fun hHeld => ?_)
      refine with_tabW knT.tab11 knT.bits11 (fun HT_ HW_ => ?_)
      generalize wr.drew = wd at hHeld ⊢
      refine tk_ 0 (some 58) (bq 13 1) HT_ HW_ rfl rfl hHeld ?_ (by intro w' hS; replace q0 := below_at hS q0; replace q1 := below_at hS q1; replace q2 := below_at hS q2; replace q3 := below_at hS q3; replace q4 := below_at hS q4; replace q5 := below_at hS q5; replace q6 := below_at hS q6; replace q7 := below_at hS q7; replace q8 := below_at hS q8; replace q9 := below_at hS q9; replace q10 := below_at hS q10; replace q11 := below_at hS q11; go_simp; with_reducible rfl)
      refine pu_ 1 (some 59) (bq 13 3) HT_ rfl rfl ?_
      refine tk_ 2 (some 60) (bq 13 7) HT_ HW_ rfl rfl hHeld ?_ (by intro w' hS; replace q1 := below_at hS q1; go_simp; with_reducible rfl)
      refine pu_ 3 (some 61) (bq 13 15) HT_ rfl rfl ?_
      refine pu_ 4 (some 62) (bq 13 31) HT_ rfl rfl ?_
      refine pu_ 5 (some 63) (bq 13 63) HT_ rfl rfl ?_
      refine tk_ 6 (some 64) (bq 13 127) HT_ HW_ rfl rfl hHeld ?_ (by intro w' hS; replace t1 := below_at hS t1; go_simp; with_reducible rfl)
      refine one_ (i := 7) (N := some 65) #[true, true, true, true, true, true, true, true, false, false, false, false, false] rfl rfl (one_of HT_.out (by kernel_rfl)) (by decide) (fun K hK => ?_)
      refine goes_ Try.func30 (by kernel_rfl) rfl #[c.val ⟨(some ad), c1, A2, c2, A3, c3, A4, c4⟩, .int .i64 x.f1] (by rfl) rfl rfl (by (try simp only [List.map_toArray, List.map_cons, List.map_nil]); first | done | rfl) ?_
      with_reducible refine (HO.out _ ⟨(some ad), c1, A2, c2, A3, c3, A4, c4⟩ (HR.out.below (below_step HB.out hHeld))).mono ?_
      rintro e wx ⟨rfl, hb⟩
      refine ⟨_, rfl, ?_⟩
      replace hHeld := below_step hHeld hb
      clear hb
      refine hK.out _ _ hHeld (fun hHeld => ?_)
      clear hK K
      refine norm_ (a' := ?_) ?_ ?_
      rotate_left
      · show Act.put _ (some 65) _ = _
        simp only [Act.put, List.setIfInBounds_toArray, List.set_cons_zero, List.set_cons_succ, i64_w, i32_w]
        rfl
      refine pu_ 8 (some 57) (bq 13 511) HT_ rfl rfl ?_
      refine pu_ 9 (some 66) (bq 13 1023) HT_ rfl rfl ?_
      refine pu_ 10 (some 67) (bq 13 2047) HT_ rfl rfl ?_
      refine pu_ 11 (some 5) (bq 13 4095) HT_ rfl rfl ?_
      refine pu_ 12 (some 6) (bq 13 8191) HT_ rfl rfl ?_
      refine done_ (done_of HT_.out (by kernel_rfl)) ?_
      replace HX := Aside0.mk (blk_below HX.out hHeld)
      replace HB := Aside0.mk (below_step HB.out hHeld)
      clear hHeld q0 q1 q2 q3 q4 q5 q6 q7 q8 q9 q10 q11 t1
      cases o2 with
      | false =>
        go_wp2_with fail
        obtain rfl := HH.out 34 (by simp [gapX]) (by decide)
        go_ret
        exact ⟨by rfl, HB.out⟩
      | true =>
        have AM1 := Aside0.mk (HZ.out (by simp [gapX]))
        go_wp2_with fail
        go_roundg (c.sv.length - (i + 1))
        case measure => omega
        case rel => exact ⟨i + 1, by omega, by omega, by first | rfl | go_num, HX, HB, AM1⟩
    · obtain rfl : i = c.sv.length := by omega
      have q1 : wr.cell? ⟨w.heap.size, 1, none⟩ = some (.slice A1 c.sv.length c1) := (blk_cell HX.out 1).trans rfl
      have hz1 : decide (c.sv.length < c.sv.length) = false := by simp
      have hz2 : decide ((c.sv.length : Int) < (c.sv.length : Int)) = false := by simp
      clear hlt
      obtain rfl := R3.out AN.out AM.out
      go_wp2
      go_ret
      exact ⟨rfl, HB.out⟩
structure SvOk (l : List S64) : Prop where
  n6 : l.length ≤ 6
  own : ∀ i, i < l.length → svIdx l (rd_T64 l i).f0 = (i : Int)
  len : ∀ i, i < l.length → (rd_T64 l i).f5.length ≤ 8
  call : ∀ i, i < l.length → ∀ k, k < (rd_T64 l i).f5.length → ∃ j : Nat, svIdx l (rdOf ByteArray.empty (rd_T64 l i).f5 k) = (j : Int) ∧ i < j ∧ j < l.length ∧ rdOf ByteArray.empty (rd_T64 l i).f5 k = (rd_T64 l j).f0
theorem svIdx_hit (l : List S64) (nm : ByteArray) (h : 0 ≤ svIdx l nm) : ∃ j : Nat, svIdx l nm = (j : Int) ∧ j < l.length ∧ nm = (rd_T64 l j).f0 := by
  unfold svIdx idxBy at h ⊢
  cases hf : l.findIdx? (fun x : S64 => x.f0.toList == nm.toList) with
  | none => rw [hf] at h; simp at h
  | some k =>
    have hk := List.findIdx?_eq_some_iff_getElem.mp hf
    obtain ⟨hk1, hk2, _⟩ := hk
    refine ⟨k, rfl, hk1, ?_⟩
    rw [rd_T64_get l k hk1]
    have e : l[k].f0.toList = nm.toList := by simpa using hk2
    exact (ByteArray.ext (by
      have h1 : l[k].f0.data.toList = nm.data.toList := by simpa [ByteArray.toList_eq] using e
      exact Array.toList_inj.mp h1)).symm
theorem svOk_of (l : List S64) (h6 : l.length ≤ 6) (h : ckSv l = 0) : SvOk l := by
  unfold ckSv at h
  by_cases h0 : fstE (svE l) l.length = 0
  · rw [if_pos h0] at h
    have a := fstE_all _ _ h0
    have b := fstE_all _ _ h
    have own : ∀ i, i < l.length → svIdx l (rd_T64 l i).f0 = (i : Int) := fun i hi => by
      have h1 := svIdx_own l i hi
      have h2 := a i hi
      unfold svE svX at h2
      by_cases hb : nameB (rd_T64 l i).f0 = false
      · rw [if_pos hb] at h2; contradiction
      · rw [if_neg hb] at h2
        by_cases hx : svIdx l (rd_T64 l i).f0 < (i : Int)
        · rw [if_pos hx] at h2; contradiction
        · omega
    refine ⟨h6, own, fun i hi => ?_, fun i hi k hk => ?_⟩
    · have h2 := a i hi
      unfold svE svX at h2
      split at h2
      · contradiction
      · split at h2
        · contradiction
        · split at h2
          · contradiction
          · split at h2
            · contradiction
            · omega
    · have h2 := b i hi
      have h3 := fstE_all _ _ h2 k hk
      unfold callE callX at h3
      by_cases h4 : svIdx l (rdOf ByteArray.empty (rd_T64 l i).f5 k) < 0
      · rw [if_pos h4] at h3; contradiction
      · rw [if_neg h4] at h3
        by_cases h5 : svIdx l (rdOf ByteArray.empty (rd_T64 l i).f5 k) ≤ (i : Int)
        · rw [if_pos h5] at h3; contradiction
        · obtain ⟨j, e, hj, hn⟩ := svIdx_hit l (rdOf ByteArray.empty (rd_T64 l i).f5 k) (by omega)
          exact ⟨j, e, by omega, hj, hn⟩
  · rw [if_neg h0] at h; exact absurd h h0
def cI (l : List S64) (i : Nat) : Int := cntSum (cntMap (l.drop (i + 1))) (rd_T64 l i).f5 1
def cP (l : List S64) (i k : Nat) : Int := cntSum (cntMap (l.drop (i + 1))) ((rd_T64 l i).f5.take k) 1
def bI : Nat → Int
  | 0 => 0
  | d + 1 => 9 + 8 * bI d
theorem bI_le (d : Nat) (h : d ≤ 6) : 0 ≤ bI d ∧ bI d ≤ 400000 := by
  match d, h with
  | 0, _ => decide
  | 1, _ => decide
  | 2, _ => decide
  | 3, _ => decide
  | 4, _ => decide
  | 5, _ => decide
  | 6, _ => decide
theorem bI_le5 (d : Nat) (h : d ≤ 5) : 0 ≤ bI d ∧ bI d ≤ 50000 := by
  match d, h with
  | 0, _ => decide
  | 1, _ => decide
  | 2, _ => decide
  | 3, _ => decide
  | 4, _ => decide
  | 5, _ => decide
theorem cI_name {l : List S64} (h : SvOk l) (j : Nat) (hj : j < l.length) : ∀ e k, e + k = j → cntName (cntMap (l.drop k)) (rd_T64 l j).f0 = cI l j := by
  intro e
  induction e with
  | zero =>
    intro k hk
    obtain rfl : k = j := by omega
    rw [cntMap_step _ k hj, ← rd_T64_get l k hj]
    unfold cntName
    rw [mget_put_same]
    rfl
  | succ e ih =>
    intro k hk
    rw [cntMap_step _ k (by omega), ← rd_T64_get l k (by omega)]
    unfold cntName
    rw [mget_put_other _ _ _ _ (fun e2 => by
      have h1 := h.own j hj
      have h2 := h.own k (by omega)
      rw [e2, h2] at h1
      omega)]
    exact ih (k + 1) (by omega)
theorem cntSum_take (m : List (ByteArray × Int)) (cl : List ByteArray) (k : Nat) (hk : k < cl.length) : ∀ n, cntSum m (cl.take (k + 1)) n = wrap64 (cntSum m (cl.take k) n + wrap64 (1 + cntName m cl[k])) := by
  intro n
  rw [List.take_succ_eq_append_getElem hk]
  generalize cl.take k = p
  induction p generalizing n with
  | nil => rfl
  | cons a r ih => simp only [List.cons_append, cntSum]; exact ih _
theorem rdOf_at (cl : List ByteArray) (k : Nat) (hk : k < cl.length) : rdOf ByteArray.empty cl (k : Int) = cl[k] := by
  unfold rdOf
  rw [Int.toNat_natCast, List.getD_eq_getElem?_getD, List.getElem?_eq_getElem hk]
  rfl
theorem cP_bound {l : List S64} (h : SvOk l) : ∀ d i, i < l.length → i + d = l.length → (1 ≤ cI l i ∧ cI l i ≤ bI d) ∧ ∀ k, k ≤ (rd_T64 l i).f5.length → (1 ≤ cP l i k ∧ cP l i k ≤ 1 + k * (1 + bI (d - 1)) ∧ ∀ j : Nat, k < (rd_T64 l i).f5.length → svIdx l (rdOf ByteArray.empty (rd_T64 l i).f5 k) = (j : Int) → cP l i (k + 1) = cP l i k + 1 + cI l j) := by
  intro d
  induction d using Nat.strongRecOn with
  | ind d ih =>
    intro i hi hd
    have h6 := h.n6
    have h8 := h.len i hi
    have hb0 := bI_le (d - 1) (by omega)
    have mono : ∀ a b : Nat, a ≤ b → b ≤ 6 → bI a ≤ bI b := fun a b hab hb6 => by
      have : ∀ x : Nat, x < 6 → bI x ≤ bI (x + 1) := fun x hx => by
        match x, hx with
        | 0, _ => decide
        | 1, _ => decide
        | 2, _ => decide
        | 3, _ => decide
        | 4, _ => decide
        | 5, _ => decide
      induction b with
      | zero => obtain rfl : a = 0 := by omega
                exact Int.le_refl _
      | succ b ihb =>
        by_cases hab2 : a ≤ b
        · exact Int.le_trans (ihb hab2 (by omega)) (this b (by omega))
        · obtain rfl : a = b + 1 := by omega
          exact Int.le_refl _
    have hstep : ∀ k, k ≤ (rd_T64 l i).f5.length → (1 ≤ cP l i k ∧ cP l i k ≤ 1 + k * (1 + bI (d - 1))) := by
      intro k
      induction k with
      | zero => intro _; simp [cP, cntSum]
      | succ k ihk =>
        intro hk
        obtain ⟨p0, p1⟩ := ihk (by omega)
        obtain ⟨j, e, j1, j2, hn⟩ := h.call i hi k (by omega)
        have hcn : cntName (cntMap (l.drop (i + 1))) (rd_T64 l i).f5[k] = cI l j := by
          rw [← rdOf_at _ k (by omega), hn]
          exact cI_name h j j2 (j - (i + 1)) (i + 1) (by omega)
        obtain ⟨⟨c0, c1⟩, _⟩ := ih (l.length - j) (by omega) j j2 (by omega)
        have c2 := mono (l.length - j) (d - 1) (by omega) (by omega)
        have m1 : ((k + 1 : Nat) : Int) * (1 + bI (d - 1)) = k * (1 + bI (d - 1)) + (1 + bI (d - 1)) := by rw [Int.natCast_add, Int.add_mul]; simp
        have m2 : (k : Int) * (1 + bI (d - 1)) ≤ 8 * (1 + bI (d - 1)) := Int.mul_le_mul_of_nonneg_right (by omega) (by omega)
        unfold cP
        rw [cntSum_take _ _ k (by omega), hcn]
        change 1 ≤ wrap64 (cP l i k + wrap64 (1 + cI l j)) ∧ wrap64 (cP l i k + wrap64 (1 + cI l j)) ≤ _
        rw [m1]
        have e2 : wrap64 (cP l i k + wrap64 (1 + cI l j)) = cP l i k + 1 + cI l j := by unfold wrap64; omega
        rw [e2]
        omega
    refine ⟨?_, fun k hk => ?_⟩
    · have hl := hstep (rd_T64 l i).f5.length (Nat.le_refl _)
      have e : cP l i (rd_T64 l i).f5.length = cI l i := by unfold cP cI; rw [List.take_length]
      rw [e] at hl
      have m2 : ((rd_T64 l i).f5.length : Int) * (1 + bI (d - 1)) ≤ 8 * (1 + bI (d - 1)) := Int.mul_le_mul_of_nonneg_right (by omega) (by omega)
      obtain ⟨d, rfl⟩ : ∃ e, d = e + 1 := ⟨d - 1, by omega⟩
      simp only [bI, Nat.add_sub_cancel] at hl m2 ⊢
      omega
    · obtain ⟨p0, p1⟩ := hstep k hk
      refine ⟨p0, p1, fun j hk2 e => ?_⟩
      obtain ⟨j', e', j1, j2, hn⟩ := h.call i hi k hk2
      obtain rfl : j = j' := by omega
      have hcn : cntName (cntMap (l.drop (i + 1))) (rd_T64 l i).f5[k] = cI l j := by
        rw [← rdOf_at _ k hk2, hn]
        exact cI_name h j j2 (j - (i + 1)) (i + 1) (by omega)
      obtain ⟨⟨c0, c1⟩, _⟩ := ih (l.length - j) (by omega) j j2 (by omega)
      have c2 := mono (l.length - j) (d - 1) (by omega) (by omega)
      have m2 : (k : Int) * (1 + bI (d - 1)) ≤ 8 * (1 + bI (d - 1)) := Int.mul_le_mul_of_nonneg_right (by omega) (by omega)
      unfold cP at p0 p1 ⊢
      rw [cntSum_take _ _ k hk2, hcn]
      unfold wrap64; omega
theorem cP_all (l : List S64) (i : Nat) : cP l i (rd_T64 l i).f5.length = cI l i := by unfold cP cI; rw [List.take_length]
theorem cP_zero (l : List S64) (i : Nat) : cP l i 0 = 1 := by simp [cP, cntSum]
theorem cI_of {l : List S64} (h : SvOk l) (hne : 1 ≤ l.length) : cntOf l = cI l 0 := by
  unfold cntOf
  have := cI_name h 0 (by omega) 0 0 rfl
  rwa [List.drop_zero] at this
def stI (l : List S64) (i j : Nat) (q : Nat) : Int := if q < i then 1 else if q = i then cP l i j else cI l q
def otI (l : List S64) (m : Nat) (q : Nat) : Int := if q < m then 1 else cI l q
def rowI (n : Nat) (f : Nat → Int) : List Value := (List.range n).map fun q => .int .i64 (f q)
theorem rowI_len (n : Nat) (f : Nat → Int) : (rowI n f).length = n := by simp [rowI]
theorem rowI_get (n : Nat) (f : Nat → Int) (q : Nat) (h : q < n) : (rowI n f)[q]? = some (.int .i64 (f q)) := by simp [rowI, h]
theorem rowI_ext (n : Nat) (f g : Nat → Int) (h : ∀ q, q < n → f q = g q) : rowI n f = rowI n g := by
  unfold rowI
  refine List.map_congr_left fun q hq => ?_
  rw [h q (List.mem_range.mp hq)]
theorem rowI_set (n i : Nat) (f g : Nat → Int) (h : ∀ q, q < n → q ≠ i → f q = g q) (hi : i < n) : (rowI n f).set i (.int .i64 (g i)) = rowI n g := by
  apply List.ext_getElem?
  intro q
  by_cases hq : q < n
  · by_cases e : q = i
    · subst e
      rw [List.getElem?_set_self (by rw [rowI_len]; exact hq), rowI_get n g q hq]
    · rw [List.getElem?_set_ne (fun h2 => e h2.symm), rowI_get n f q hq, rowI_get n g q hq, h q hq e]
  · rw [List.getElem?_eq_none (by rw [List.length_set, rowI_len]; omega), List.getElem?_eq_none (by rw [rowI_len]; omega)]
theorem st_start (l : List S64) (i n : Nat) : rowI n (otI l (i + 1)) = rowI n (stI l i 0) := rowI_ext n _ _ fun q _ => by
  unfold otI stI
  by_cases h1 : q < i
  · rw [if_pos (by omega), if_pos h1]
  · by_cases h2 : q = i
    · subst h2; rw [if_pos (by omega), if_neg h1, if_pos rfl, cP_zero]
    · rw [if_neg (by omega), if_neg h1, if_neg h2]
theorem st_end (l : List S64) (i n : Nat) : rowI n (stI l i (rd_T64 l i).f5.length) = rowI n (otI l i) := rowI_ext n _ _ fun q _ => by
  unfold otI stI
  by_cases h1 : q < i
  · rw [if_pos h1, if_pos h1]
  · by_cases h2 : q = i
    · subst h2; rw [if_neg h1, if_pos rfl, if_neg h1, cP_all]
    · rw [if_neg h1, if_neg h2, if_neg h1]
theorem st_step (l : List S64) (i j n : Nat) (hi : i < n) (v : Int) (hv : v = cP l i (j + 1)) : (rowI n (stI l i j)).set i (.int .i64 v) = rowI n (stI l i (j + 1)) := by
  have := rowI_set n i (stI l i j) (stI l i (j + 1)) (fun q _ hq => by unfold stI; simp [hq]) hi
  rw [hv]
  have e : stI l i (j + 1) i = cP l i (j + 1) := by simp [stI]
  rw [e] at this
  exact this
theorem st_i (l : List S64) (i j : Nat) : stI l i j i = cP l i j := by simp [stI]
theorem st_to (l : List S64) (i j t : Nat) (h : i < t) : stI l i j t = cI l t := by unfold stI; rw [if_neg (by omega), if_neg (by omega)]
theorem row_snoc (n : Nat) : rowI (n + 1) (fun _ => 1) = rowI n (fun _ => 1) ++ [.int .i64 1] := by unfold rowI; rw [List.range_succ, List.map_append]; rfl
theorem row_ones (l : List S64) : rowI l.length (fun _ => 1) = rowI l.length (otI l l.length) := rowI_ext _ _ _ fun q hq => by unfold otI; rw [if_pos hq]
theorem ownI {W : World} {b r cp n : Nat} {xs : List Value} (ho : W.ownsRow b 3 1 (.slice (some ⟨r, 0, none⟩) n cp) n xs) (q : Nat) (u : Value) (hq : q < n) (h : xs[q]? = some u) : W.cell? ⟨r, q, none⟩ = some u ∧ W.frozen? ⟨r, q, none⟩ = false ∧ b ≤ r := by
  rcases ho.2 with ⟨_, h⟩ | ⟨r', cap, cur, e, hb, hr, h1, h2, h3, h4⟩
  · omega
  · injection e with e
    injection e with e
    injection e with e
    subst e
    refine ⟨?_, blk_frozen hr _, hb⟩
    rw [blk_cell hr, ← h, ← h4, List.getElem?_take, if_pos (by omega), Array.getElem?_toList]
theorem own_some' {W : World} {b : Nat} {e : TypeId} {sz n : Nat} {v : Value} {xs : List Value} (h : W.ownsRow b e sz v n xs) (hn : 0 < n) : ∃ (r cp : Nat) (cur : Array Value), v = .slice (some ⟨r, 0, none⟩) n cp ∧ W.heap[r]? = some (Obj.cells cur e (0, 0)) ∧ b ≤ r := by
  rcases h.2 with ⟨_, h⟩ | ⟨g, cap, cur, h1, h2, h3, h4⟩
  · omega
  · exact ⟨g, cap, cur, h1, h3, h2⟩
def kiT.T12 : Bool × List (List Nat × List Nat) := (true, [([], []), ([], []), ([], []), ([], []), ([2, 3], [2, 3]), ([4], [4]), ([5], [5]), ([], []), ([], []), ([], []), ([9], [9]), ([], []), ([10, 11], [10, 11]), ([12], [12]), ([13], [13]), ([], []), ([14, 15], [14, 15]), ([16], [16]), ([8, 17], [8, 17]), ([7, 18], [7, 18]), ([19], [19]), ([6, 20], [6, 20]), ([21], [21]), ([0, 1, 0, 1, 2, 3, 4, 5, 6, 7, 8, 9, 10, 11, 12, 13, 14, 15, 16, 17, 18, 19, 20, 21, 22], [0, 1]), ([23, 22, 18, 0, 1, 2, 3, 4, 5, 6, 7, 8, 9, 10, 11, 12, 13, 14, 15, 16, 17, 18, 19, 20, 21, 22], [22, 23])])
def kiT.B12 : List Nat := [0, 0, 0, 0, 12, 28, 60, 0, 0, 0, 512, 0, 3584, 7680, 15872, 0, 65024, 130560, 261888, 524160, 1048448, 2097148, 4194300, 8388607, 16777215]
theorem kiT.tab12 : rtab .any (opsOf Try.f31 12) = kiT.T12 := by kernel_rfl
theorem kiT.bits12 : waitsOk kiT.T12.2 kiT.B12 = true := by kernel_rfl
attribute [local go_sem] max2_int min2_int max_two min_two
set_option maxHeartbeats 8000000 in
set_option maxRecDepth 100000 in
theorem mcount_calls (c : Cfg) (p : CfgAt) (w : World) (hR : CfgR w p c) (hok : SvOk c.sv) (hne : 1 ≤ c.sv.length) : Calls Try.prog 31 #[c.val p, .int .i64 0] w fun e w' => e = .returned (.int .i64 (cntOf c.sv)) ∧ Below w.heap.size w w' := by
  obtain ⟨A1, c1, A2, c2, A3, c3, A4, c4⟩ := p
  have HR := Aside0.mk hR
  have HOK := Aside0.mk hok
  have h6 := hok.n6
  have HX0 := Aside0.mk (blk_new w (.cells (c.cells ⟨A1, c1, A2, c2, A3, c3, A4, c4⟩) 31))
  have HB0 := Aside0.mk (below_alloc (Below.refl w.heap.size w) (.cells (c.cells ⟨A1, c1, A2, c2, A3, c3, A4, c4⟩) 31))
  rw [cI_of hok hne]
  clear hR hok
  go_enter Try.func31, Try.ntmps31
  go_wp2_with fail
  go_loopg [5, 6] c.sv.length (fun gg s5 s6 wr => ∃ (i cp : Nat) (A : Option Addr), s5 = .slice A i cp ∧ s6 = .int .i64 (i : Int) ∧ i ≤ c.sv.length ∧ c.sv.length - i ≤ gg ∧ Aside0 (wr.heap[w.heap.size]? = some (.cells (c.cells ⟨A1, c1, A2, c2, A3, c3, A4, c4⟩) 31 (0, 0))) ∧ Aside0 (Below w.heap.size w wr) ∧ Aside0 (wr.ownsRow w.heap.size 3 1 (.slice A i cp) i (rowI i fun _ => 1)))
  case atStart => exact ⟨0, 0, none, rfl, rfl, Nat.zero_le _, by omega, HX0, HB0, ⟨rfl, .inl ⟨rfl, rfl⟩⟩⟩
  case round =>
  clear HX0 HB0
  obtain ⟨i, cp, A, rfl, rfl, hi, hgi, HX, HB, HO⟩ := hrel
  have q1 : wr.cell? ⟨w.heap.size, 1, none⟩ = some (.slice A1 c.sv.length c1) := (blk_cell HX.out 1).trans rfl
  by_cases hlt : i < c.sv.length
  · have hz1 : (i : Int) < (c.sv.length : Int) := by omega
    have s1 : IntKind.i64.wrap ((i : Int) + 1) = (i : Int) + 1 := IntWalk.i64_in _ (by omega)
    have hsz : w.heap.size ≤ wr.heap.size := HB.out.size
    go_wp2_with (at_builtin; go_must (refine print_append_cells (w0 := w) w.heap.size rfl _ _ 47 3 _ 1 8 rfl Try.underlying47 info3 rfl (by decide) (by decide) (.slice A i cp) i (rowI i fun _ => 1) [.int .i64 1] rfl ?c4 rfl ?c1 HO.out HB.out ?c2 ?c3 ?_; (case c1 => intro u hu; simp at hu; subst hu; rfl); (case c4 => show Value.slice (some ⟨wr.heap.size, 0, none⟩) 1 1 = _; first | rfl | simp); (case c2 => first | omega | (simp; omega)); (case c3 => first | omega | (simp; omega)); intro v1 w1 hown1 hb1 hg1 hat1; obtain ⟨A1', cp1, rfl⟩ := own_slice hown1; have HW := Aside0.mk hown1; have HG := Aside0.mk hg1; have HB1 := Aside0.mk hb1; clear hown1 hg1 hb1 hat1))
    have HX1 : Aside0 (w1.heap[w.heap.size]? = some (.cells (c.cells ⟨A1, c1, A2, c2, A3, c3, A4, c4⟩) 31 (0, 0))) := ⟨(HG.out.block _ (blk_lt HX.out) (own_ne HO.out HX.out (by decide))).trans HX.out⟩
    go_roundg (c.sv.length - (i + 1))
    case measure => omega
    case rel => exact ⟨i + 1, cp1, A1', by rfl, by first | rfl | go_num, by omega, Nat.le_refl _, HX1, HB1, ⟨by rw [row_snoc]; exact HW.out⟩⟩
  · obtain rfl : i = c.sv.length := by omega
    have hz1 : decide (c.sv.length < c.sv.length) = false := by simp
    have hz2 : decide ((c.sv.length : Int) < (c.sv.length : Int)) = false := by simp
    have s1 : IntKind.i64.wrap ((c.sv.length : Int) - 1) = (c.sv.length : Int) - 1 := IntWalk.i64_in _ (by omega)
    obtain ⟨r, cq, cur0, e0, hr0, hbr⟩ := own_some' HO.out (by omega)
    injection e0 with e0 _ e0'
    subst e0
    subst e0'
    clear hlt hi hgi hr0
    replace HO : Aside0 (wr.ownsRow w.heap.size 3 1 (.slice (some ⟨r, 0, none⟩) c.sv.length cp) c.sv.length (rowI c.sv.length (otI c.sv c.sv.length))) := ⟨by rw [← row_ones]; exact HO.out⟩
    obtain ⟨n, hn⟩ : ∃ n, n = c.sv.length := ⟨_, rfl⟩
    go_wp2_with fail
    clear q1
    go_loopg [7, 8] c.sv.length (fun gg s7 s8 wr => ∃ m : Nat, m ≤ c.sv.length ∧ m ≤ gg ∧ s7 = .int .i64 ((m : Int) - 1) ∧ Aside0 (wr.heap[w.heap.size]? = some (.cells (c.cells ⟨A1, c1, A2, c2, A3, c3, A4, c4⟩) 31 (0, 0))) ∧ Aside0 (Below w.heap.size w wr) ∧ Aside0 (wr.ownsRow w.heap.size 3 1 (.slice (some ⟨r, 0, none⟩) c.sv.length cp) c.sv.length (rowI c.sv.length (otI c.sv m))))
    case atStart => exact ⟨c.sv.length, Nat.le_refl _, Nat.le_refl _, rfl, HX, HB, HO⟩
    case round =>
    clear HX HB HO hz1 hz2 s1
    obtain ⟨m, hm, hgm, rfl, HX, HB, HO⟩ := hrel
    cases m with
    | zero =>
      have hz3 : decide ((0 : Int) ≤ ((0 : Nat) : Int) - 1) = false := by simp
      have hz4 : decide ((0 : Int) ≤ -1) = false := by simp
      obtain ⟨e0, _, _⟩ := ownI HO.out 0 (.int .i64 (cI c.sv 0)) (by omega) (by rw [rowI_get _ _ 0 (by omega)]; rfl)
      have hz5 : (0 : Int) < (c.sv.length : Int) := by omega
      go_wp2_with fail
      go_returns
      exact ⟨by rfl, HB.out⟩
    | succ i =>
      have e7 : ((i + 1 : Nat) : Int) - 1 = (i : Int) := by omega
      rw [e7]
      have hz3 : decide ((0 : Int) ≤ (i : Int)) = true := by simp
      have hz1 : (i : Int) < (c.sv.length : Int) := by omega
      have hlt : i < c.sv.length := by omega
      have s2 : IntKind.i64.wrap ((i : Int) - 1) = (i : Int) - 1 := IntWalk.i64_in _ (by omega)
      obtain ⟨ad, A5, c5, e, t0, t1, t2, t3, t4, t5, l5, k5⟩ := at_T64 HR.out.r1 (i : Int) (by omega) (by omega)
      dsimp only at e
      subst e
      simp only [Int.toNat_natCast] at t5
      clear t0 t1 t2 t3 t4
      have h8 := HOK.out.len i hlt
      have HCALL := Aside0.mk (HOK.out.call i hlt)
      have HBND := Aside0.mk (cP_bound HOK.out (c.sv.length - i) i hlt (by omega))
      have HBJ := Aside0.mk (fun j (hj : j < c.sv.length) => (cP_bound HOK.out (c.sv.length - j) j hj (by omega)).1)
      have HBM := Aside0.mk (fun d (hd : d ≤ 5) => bI_le5 d hd)
      replace HO : Aside0 (wr.ownsRow w.heap.size 3 1 (.slice (some ⟨r, 0, none⟩) c.sv.length cp) c.sv.length (rowI c.sv.length (stI c.sv i 0))) := ⟨by rw [← st_start]; exact HO.out⟩
      have HEND := Aside0.mk (st_end c.sv i c.sv.length)
      have HSTEP := Aside0.mk (fun j v hv => st_step c.sv i j c.sv.length hlt v hv)
      have HX64 : Aside0 (rd_T64 c.sv (i : Int) = rd_T64 c.sv i) := ⟨rfl⟩
      have hn5 : (rd_T64 c.sv i).f5.length ≤ 9223372036854775807 := k5.2.1
      have HK5 := Aside0.mk k5
      have HT5 := Aside0.mk t5
      clear k5 t5 HX64
      generalize hxx : rd_T64 c.sv (i : Int) = x at h8 HCALL HBND HEND l5 hn5 HK5 HT5
      have HXX := Aside0.mk hxx
      clear hxx
      go_wp2_with fail
      go_loopg [8] x.f5.length (fun gg s8 wr => ∃ j : Nat, j ≤ x.f5.length ∧ x.f5.length - j ≤ gg ∧ s8 = .int .i64 (j : Int) ∧ Aside0 (wr.heap[w.heap.size]? = some (.cells (c.cells ⟨(some ad), c1, A2, c2, A3, c3, A4, c4⟩) 31 (0, 0))) ∧ Aside0 (Below w.heap.size w wr) ∧ Aside0 (wr.ownsRow w.heap.size 3 1 (.slice (some ⟨r, 0, none⟩) c.sv.length cp) c.sv.length (rowI c.sv.length (stI c.sv i j))))
      case atStart => exact ⟨0, Nat.zero_le _, by omega, rfl, HX, HB, HO⟩
      case round =>
      clear HX HB HO
      obtain ⟨j, hj, hgj, rfl, HX, HB, HO⟩ := hrel
      have t5 := (HB.out.cell (World.block_lt_of_cell? _ _ HT5.out)).trans HT5.out
      by_cases hlj : j < x.f5.length
      · obtain ⟨ad5, e5, u0⟩ := Kd.at_string HK5.out (j : Int) (by omega) (by omega)
        subst e5
        simp only [Int.toNat_natCast] at u0
        replace u0 := (HB.out.cell (World.block_lt_of_cell? _ _ u0)).trans u0
        obtain ⟨tq, hto, i1, i2, _⟩ := HCALL.out j hlj
        obtain ⟨p0, p1, p2⟩ := HBND.out.2 j (by omega)
        have p3 := p2 tq hlj hto
        obtain ⟨c0, c9⟩ := HBJ.out tq i2
        have b0 := HBM.out (c.sv.length - i - 1) (by omega)
        have b1 := HBM.out (c.sv.length - tq) (by omega)
        have hmul : (j : Int) * (1 + bI (c.sv.length - i - 1)) ≤ 8 * (1 + bI (c.sv.length - i - 1)) := Int.mul_le_mul_of_nonneg_right (by omega) (by omega)
        have hle : cP c.sv i j ≤ 5000000 := by omega
        have HSJ := Aside0.mk (HSTEP.out j _ p3.symm)
        obtain ⟨e9, f9, hbr0⟩ := ownI HO.out i (.int .i64 (cP c.sv i j)) hlt (by rw [rowI_get _ _ i hlt, st_i])
        obtain ⟨e10, _, _⟩ := ownI HO.out tq (.int .i64 (cI c.sv tq)) i2 (by rw [rowI_get _ _ tq i2, st_to _ _ _ _ i1])
        have HI := Aside0.mk (fun W (p : CfgAt) (h : CfgR W p c) => mindex_calls c p (rdOf ByteArray.empty x.f5 j) W h)
        rw [hto] at HI
        clear hto p2
        have hcb : cP c.sv i j + 1 + cI c.sv tq ≤ 1000000 := by rw [← p3]; have h9 := (HBND.out.2 (j + 1) (by omega)).2.1; have hm2 : ((j + 1 : Nat) : Int) * (1 + bI (c.sv.length - i - 1)) ≤ 8 * (1 + bI (c.sv.length - i - 1)) := Int.mul_le_mul_of_nonneg_right (by omega) (by omega); omega
        clear p1 p3 c9 b0 b1 hmul
        generalize hpv : cP c.sv i j = pv at p0 hle e9 hcb HSJ
        have HPV := Aside0.mk (congrArg (fun z => some (Value.int .i64 z)) hpv)
        clear hpv
        generalize cI c.sv tq = cv at c0 e10 hcb HSJ
        generalize rdOf ByteArray.empty x.f5 (j : Int) = nm at u0 HI
        have hz3 : (j : Int) < (x.f5.length : Int) := by omega
        have hz5 : (tq : Int) < (c.sv.length : Int) := by omega
        have s1 : IntKind.i64.wrap ((j : Int) + 1) = (j : Int) + 1 := IntWalk.i64_in _ (by omega)
        have w1 : IntKind.i64.wrap (pv + 1) = pv + 1 := IntWalk.i64_in _ (by omega)
        have w2 : IntKind.i64.wrap (pv + 1 + cv) = pv + 1 + cv := IntWalk.i64_in _ (by omega)
        have w3 : (if (1048576 : Int) < pv + 1 + cv then (1048576 : Int) else pv + 1 + cv) = pv + 1 + cv := if_neg (by omega)
        have w4 : ((1048576 : Int) < pv + 1 + cv) = False := eq_false (by omega)
        have hcr : w.heap.size ≠ r := fun e => by
          have h1 := own_ne HO.out HX.out (by decide)
          rw [e] at h1
          exact h1 rfl
        obtain ⟨q0, q1, q2, q3, q4, q5, q6, q7, q8, q9, q10, q11⟩ := cfg12 HX.out
        go_upto_region 12 with fail
        refine start_ (n := 25) (S := fun w' => Below wr.heap.size wr w') (ds := [24]) #[false, false, false, false, false, false, false, false, false, false, false, false, false, false, false, false, false, false, false, false, false, false, false, false, false] (by kernel_rfl) rfl rfl (Below.refl _ _).drew (fun hHeld => ?_)
        refine with_tabW kiT.tab12 kiT.bits12 (fun HT_ HW_ => ?_)
        generalize wr.drew = wd at hHeld ⊢
        refine pu_ 0 (some 38) (bq 25 1) HT_ rfl rfl ?_
        refine pu_ 1 (some 39) (bq 25 3) HT_ rfl rfl ?_
        refine pu_ 2 (some 40) (bq 25 7) HT_ rfl rfl ?_
        refine pu_ 3 (some 41) (bq 25 15) HT_ rfl rfl ?_
        refine pu_ 4 (some 42) (bq 25 31) HT_ rfl rfl ?_
        refine tk_ 5 (some 43) (bq 25 63) HT_ HW_ rfl rfl hHeld ?_ (by intro w' hS; replace e9 := below_at hS e9; go_simp; with_reducible rfl)
        refine pu_ 6 (some 44) (bq 25 127) HT_ rfl rfl ?_
        refine pu_ 7 (some 45) (bq 25 255) HT_ rfl rfl ?_
        refine tk_ 8 (some 46) (bq 25 511) HT_ HW_ rfl rfl hHeld ?_ (by intro w' hS; replace q0 := below_at hS q0; replace q1 := below_at hS q1; replace q2 := below_at hS q2; replace q3 := below_at hS q3; replace q4 := below_at hS q4; replace q5 := below_at hS q5; replace q6 := below_at hS q6; replace q7 := below_at hS q7; replace q8 := below_at hS q8; replace q9 := below_at hS q9; replace q10 := below_at hS q10; replace q11 := below_at hS q11; go_simp; with_reducible rfl)
        refine pu_ 9 (some 47) (bq 25 1023) HT_ rfl rfl ?_
        refine tk_ 10 (some 48) (bq 25 2047) HT_ HW_ rfl rfl hHeld ?_ (by intro w' hS; replace q1 := below_at hS q1; go_simp; with_reducible rfl)
        refine pu_ 11 (some 49) (bq 25 4095) HT_ rfl rfl ?_
        refine pu_ 12 (some 50) (bq 25 8191) HT_ rfl rfl ?_
        refine pu_ 13 (some 51) (bq 25 16383) HT_ rfl rfl ?_
        refine tk_ 14 (some 52) (bq 25 32767) HT_ HW_ rfl rfl hHeld ?_ (by intro w' hS; replace t5 := below_at hS t5; go_simp; with_reducible rfl)
        refine pu_ 15 (some 53) (bq 25 65535) HT_ rfl rfl ?_
        refine pu_ 16 (some 54) (bq 25 131071) HT_ rfl rfl ?_
        refine tk_ 17 (some 55) (bq 25 262143) HT_ HW_ rfl rfl hHeld ?_ (by intro w' hS; replace u0 := below_at hS u0; go_simp; with_reducible rfl)
        refine one_ (i := 18) (N := some 56) #[true, true, true, true, true, true, true, true, true, true, true, true, true, true, true, true, true, true, true, false, false, false, false, false, false] rfl rfl (one_of HT_.out (by kernel_rfl)) (by decide) (fun K hK => ?_)
        refine goes_ Try.func17 (by kernel_rfl) rfl #[c.val ⟨(some ad), c1, A2, c2, A3, c3, A4, c4⟩, .string nm] (by rfl) rfl rfl (by (try simp only [List.map_toArray, List.map_cons, List.map_nil]); first | done | rfl) ?_
        with_reducible refine (HI.out _ ⟨(some ad), c1, A2, c2, A3, c3, A4, c4⟩ (HR.out.below (below_step HB.out hHeld))).mono ?_
        rintro e wx ⟨rfl, hb⟩
        refine ⟨_, rfl, ?_⟩
        replace hHeld := below_step hHeld hb
        clear hb
        refine hK.out _ _ hHeld (fun hHeld => ?_)
        clear hK K
        refine norm_ (a' := ?_) ?_ ?_
        rotate_left
        · show Act.put _ (some 56) _ = _
          simp only [Act.put, List.setIfInBounds_toArray, List.set_cons_zero, List.set_cons_succ, i64_w, i32_w]
          rfl
        refine pu_ 19 (some 57) (bq 25 1048575) HT_ rfl rfl ?_
        refine tk_ 20 (some 58) (bq 25 2097151) HT_ HW_ rfl rfl hHeld ?_ (by intro w' hS; replace e10 := below_at hS e10; go_simp; with_reducible rfl)
        refine pu_ 21 (some 59) (bq 25 4194303) HT_ rfl rfl ?_
        refine pu_ 22 (some 60) (bq 25 8388607) HT_ rfl rfl ?_
        refine pu_ 23 (some 61) (bq 25 16777215) HT_ rfl rfl ?_
        have HO5 := Aside0.mk (pw_own_below HO.out hHeld)
        obtain ⟨k9, f9', _⟩ := ownI HO5.out i (.int .i64 pv) hlt (by rw [rowI_get _ _ i hlt, st_i]; exact HPV.out)
        clear f9
        refine last_ (i := 24) (N := none) #[true, true, true, true, true, true, true, true, true, true, true, true, true, true, true, true, true, true, true, true, true, true, true, true, true] rfl rfl (one_of HT_.out (by kernel_rfl)) (by decide) (fun K hK => ?_)
        rw [if_pos (by rfl)]
        go_simp
        refine hK.out _ _ ?_
        clear hK K
        refine done_ (done_of HT_.out (by kernel_rfl)) ?_
        obtain ⟨o1, _⟩ := HO5.out.stored i (.int .i64 (pv + 1 + cv))
        rw [HSJ.out] at o1
        have HO6 := Aside0.mk o1
        have HX6 : Aside0 ((wx.setCell ⟨r, i, none⟩ (.int .i64 (pv + 1 + cv))).heap[w.heap.size]? = some (.cells (c.cells ⟨(some ad), c1, A2, c2, A3, c3, A4, c4⟩) 31 (0, 0))) := ⟨by rw [Below.heap_setCell _ _ _ _ hcr]; exact blk_below HX.out hHeld⟩
        have HB6 : Aside0 (Below w.heap.size w (wx.setCell ⟨r, i, none⟩ (.int .i64 (pv + 1 + cv)))) := ⟨(below_step HB.out hHeld).setCell hbr _⟩
        clear o1 HO5 HO HX HB hHeld k9 f9' e9 e10 q0 q1 q2 q3 q4 q5 q6 q7 q8 q9 q10 q11 u0 t5
        go_wp2_with fail
        go_roundg (x.f5.length - (j + 1))
        case measure => omega
        case rel => exact ⟨j + 1, by omega, by omega, by first | rfl | go_num, HX6, HB6, HO6⟩
      · obtain rfl : j = x.f5.length := by omega
        have hz3 : decide (x.f5.length < x.f5.length) = false := by simp
        have hz4 : decide ((x.f5.length : Int) < (x.f5.length : Int)) = false := by simp
        have q1 : wr.cell? ⟨w.heap.size, 1, none⟩ = some (.slice (some ad) c.sv.length c1) := (blk_cell HX.out 1).trans rfl
        replace HO := Aside0.mk (HEND.out ▸ HO.out)
        clear hlj
        go_wp2_with fail
        go_roundg i
        case measure => omega
        case rel => exact ⟨i, by omega, Nat.le_refl _, by first | rfl | go_num, HX, HB, HO⟩
set_option maxHeartbeats 8000000 in
set_option maxRecDepth 100000 in
theorem ckS_total (c : Cfg) (p : CfgAt) (w : World) (hR : CfgR w p c) : Calls Try.prog 53 #[c.val p] w fun e w' => e = .returned (.int .i64 (ckSv c.sv)) ∧ Below w.heap.size w w' := by
  obtain ⟨A1, c1, A2, c2, A3, c3, A4, c4⟩ := p
  have HR := Aside0.mk hR
  have hn : c.sv.length ≤ 9223372036854775807 := hR.r1.2.1
  have HX0 := Aside0.mk (blk_new w (.cells (c.cells ⟨A1, c1, A2, c2, A3, c3, A4, c4⟩) 31))
  have HB0 := Aside0.mk (below_alloc (Below.refl w.heap.size w) (.cells (c.cells ⟨A1, c1, A2, c2, A3, c3, A4, c4⟩) 31))
  obtain ⟨R1, R2, R3⟩ := first2 (svE c.sv) (callsE c.sv) c.sv.length c.sv.length _ (rfl : ckSv c.sv = _)
  generalize ckSv c.sv = R at R1 R2 R3 ⊢
  replace R1 := Aside0.mk R1
  replace R2 := Aside0.mk R2
  replace R3 := Aside0.mk R3
  clear hR
  go_enter Try.func53, Try.ntmps53
  go_wp2_with fail
  go_loopg [3, 4, 13] c.sv.length (fun gg s3 s4 s13 wr => ∃ i : Nat, i ≤ c.sv.length ∧ c.sv.length - i ≤ gg ∧ s13 = .int .i64 (i : Int) ∧ Aside0 (wr.heap[w.heap.size]? = some (.cells (c.cells ⟨A1, c1, A2, c2, A3, c3, A4, c4⟩) 31 (0, 0))) ∧ Aside0 (Below w.heap.size w wr) ∧ Aside0 (∀ j, j < i → svE c.sv j = 0))
  case atStart => exact ⟨0, Nat.zero_le _, by omega, rfl, HX0, HB0, ⟨fun j hj => absurd hj (Nat.not_lt_zero _)⟩⟩
  case round =>
  clear HX0 HB0
  obtain ⟨i, hi, hgi, rfl, HX, HB, AN⟩ := hrel
  by_cases hlt : i < c.sv.length
  · have hown := svIdx_own c.sv i hlt
    obtain ⟨ad, A5, c5, e, t0, t1, t2, t3, t4, t5, l5, k5⟩ := at_T64 HR.out.r1 (i : Int) (by omega) (by omega)
    dsimp only at e
    subst e
    simp only [Int.toNat_natCast] at t0 t1 t2 t3 t4 t5
    replace t0 := (HB.out.cell (World.block_lt_of_cell? _ _ t0)).trans t0
    replace t1 := (HB.out.cell (World.block_lt_of_cell? _ _ t1)).trans t1
    replace t2 := (HB.out.cell (World.block_lt_of_cell? _ _ t2)).trans t2
    replace t3 := (HB.out.cell (World.block_lt_of_cell? _ _ t3)).trans t3
    replace t4 := (HB.out.cell (World.block_lt_of_cell? _ _ t4)).trans t4
    replace t5 := (HB.out.cell (World.block_lt_of_cell? _ _ t5)).trans t5
    clear k5
    have HH : Aside0 (∀ v, svE c.sv i = v → v ≠ 0 → R = v) := ⟨fun v hv h0 => by rw [← hv]; exact R1.out i hlt AN.out (by rw [hv]; exact h0)⟩
    have HZ : Aside0 (svE c.sv i = 0 → ∀ j, j < i + 1 → svE c.sv j = 0) := ⟨ext0 (svE c.sv) i AN.out⟩
    have HI := Aside0.mk (fun W (p : CfgAt) (h : CfgR W p c) => index_calls c p (rd_T64 c.sv i).f0 W h)
    have HNB := Aside0.mk (fun W => nameB_calls (rd_T64 c.sv i).f0 W)
    replace HH : Aside0 (∀ v, svX (nameB (rd_T64 c.sv i).f0) (rd_T64 c.sv i) (svIdx c.sv (rd_T64 c.sv i).f0) i = v → v ≠ 0 → R = v) := HH
    replace HZ : Aside0 (svX (nameB (rd_T64 c.sv i).f0) (rd_T64 c.sv i) (svIdx c.sv (rd_T64 c.sv i).f0) i = 0 → ∀ j, j < i + 1 → svE c.sv j = 0) := HZ
    generalize svIdx c.sv (rd_T64 c.sv i).f0 = ix at hown HH HZ HI
    generalize nameB (rd_T64 c.sv i).f0 = nb at HH HZ HNB
    generalize rd_T64 c.sv i = x at t0 t1 t2 t3 t4 t5 l5 HH HZ HI HNB
    have hz1 : (i : Int) < (c.sv.length : Int) := by omega
    clear AN
    have K1 := Aside0.mk (fun W => bad_calls x.f1 1 1048576 W)
    obtain ⟨b1, hb1_⟩ : ∃ b, b = bad x.f1 1 1048576 := ⟨_, rfl⟩
    rw [← hb1_] at K1
    have E1 := Aside0.mk hb1_
    clear hb1_
    have K2 := Aside0.mk (fun W => bad_calls x.f2 0 1048576 W)
    obtain ⟨b2, hb2_⟩ : ∃ b, b = bad x.f2 0 1048576 := ⟨_, rfl⟩
    rw [← hb2_] at K2
    have E2 := Aside0.mk hb2_
    clear hb2_
    have K3 := Aside0.mk (fun W => bad_calls x.f3 0 1048576 W)
    obtain ⟨b3, hb3_⟩ : ∃ b, b = bad x.f3 0 1048576 := ⟨_, rfl⟩
    rw [← hb3_] at K3
    have E3 := Aside0.mk hb3_
    clear hb3_
    have K4 := Aside0.mk (fun W => bad_calls x.f4 0 1000000 W)
    obtain ⟨b4, hb4_⟩ : ∃ b, b = bad x.f4 0 1000000 := ⟨_, rfl⟩
    rw [← hb4_] at K4
    have E4 := Aside0.mk hb4_
    clear hb4_
    go_upto_region 4 with fail
    replace HX := Aside0.mk (blk_alloc HX.out (.cells #[.string x.f0, .int .i64 x.f1, .int .i64 x.f2, .int .i64 x.f3, .int .i64 x.f4, .slice A5 x.f5.length c5] 64))
    have HY := Aside0.mk (blk_new wr (.cells #[.string x.f0, .int .i64 x.f1, .int .i64 x.f2, .int .i64 x.f3, .int .i64 x.f4, .slice A5 x.f5.length c5] 64))
    replace HB := Aside0.mk (below_alloc HB.out (.cells #[.string x.f0, .int .i64 x.f1, .int .i64 x.f2, .int .i64 x.f3, .int .i64 x.f4, .slice A5 x.f5.length c5] 64))
    clear t0 t1 t2 t3 t4 t5
    generalize hgb : wr.heap.size = gb at HY ⊢
    generalize wr.alloc (.cells #[.string x.f0, .int .i64 x.f1, .int .i64 x.f2, .int .i64 x.f3, .int .i64 x.f4, .slice A5 x.f5.length c5] 64) = v0 at HX HY HB ⊢
    have y0 : v0.cell? ⟨gb, 0, none⟩ = some (.string x.f0) := (blk_cell HY.out 0).trans rfl
    go_wp2_with fail
    refine (HNB.out _).mono ?_
    rintro e v1 ⟨rfl, hb1⟩
    replace HX := Aside0.mk (blk_below HX.out hb1)
    replace HY := Aside0.mk (blk_below HY.out hb1)
    replace HB := Aside0.mk (below_step HB.out hb1)
    clear hb1 y0
    cases nb with
    | false =>
      go_wp2_with fail
      obtain rfl := HH.out 11 (by simp [svX]) (by decide)
      go_ret
      exact ⟨by rfl, HB.out⟩
    | true =>
      obtain ⟨q0, q1, q2, q3, q4, q5, q6, q7, q8, q9, q10, q11⟩ := cfg12 HX.out
      have y0 : v1.cell? ⟨gb, 0, none⟩ = some (.string x.f0) := (blk_cell HY.out 0).trans rfl
      go_wp2_with fail
      refine (HI.out _ ⟨some ad, c1, A2, c2, A3, c3, A4, c4⟩ (HR.out.below HB.out)).mono ?_
      rintro e v2 ⟨rfl, hb1⟩
      replace HX := Aside0.mk (blk_below HX.out hb1)
      replace HY := Aside0.mk (blk_below HY.out hb1)
      replace HB := Aside0.mk (below_step HB.out hb1)
      clear hb1 y0 q0 q1 q2 q3 q4 q5 q6 q7 q8 q9 q10 q11
      by_cases hix : ix < (i : Int)
      · have z2 : decide (ix < (i : Int)) = true := decide_eq_true hix
        go_wp2_with fail
        obtain rfl := HH.out 9 (by simp [svX, hix]) (by decide)
        go_ret
        exact ⟨by rfl, HB.out⟩
      · have z2 : decide (ix < (i : Int)) = false := decide_eq_false hix
        have y1 : v2.cell? ⟨gb, 1, none⟩ = some (.int .i64 x.f1) := (blk_cell HY.out 1).trans rfl
        go_wp2_with fail
        refine (K1.out _).mono ?_
        rintro e v3 ⟨rfl, hb1⟩
        replace HX := Aside0.mk (blk_below HX.out hb1)
        replace HY := Aside0.mk (blk_below HY.out hb1)
        replace HB := Aside0.mk (below_step HB.out hb1)
        clear hb1 y1 K1
        cases b1 with
        | true =>
          go_wp2_with fail
          obtain rfl := HH.out 2 (by simp [svX, hix, ← E1.out]) (by decide)
          go_ret
          exact ⟨by rfl, HB.out⟩
        | false =>
          have y2 : v3.cell? ⟨gb, 2, none⟩ = some (.int .i64 x.f2) := (blk_cell HY.out 2).trans rfl
          go_wp2_with fail
          refine (K2.out _).mono ?_
          rintro e v4 ⟨rfl, hb1⟩
          replace HX := Aside0.mk (blk_below HX.out hb1)
          replace HY := Aside0.mk (blk_below HY.out hb1)
          replace HB := Aside0.mk (below_step HB.out hb1)
          clear hb1 y2 K2
          cases b2 with
          | true =>
            go_wp2_with fail
            obtain rfl := HH.out 2 (by simp [svX, hix, ← E1.out, ← E2.out]) (by decide)
            go_ret
            exact ⟨by rfl, HB.out⟩
          | false =>
            have y3 : v4.cell? ⟨gb, 3, none⟩ = some (.int .i64 x.f3) := (blk_cell HY.out 3).trans rfl
            go_wp2_with fail
            refine (K3.out _).mono ?_
            rintro e v5 ⟨rfl, hb1⟩
            replace HX := Aside0.mk (blk_below HX.out hb1)
            replace HY := Aside0.mk (blk_below HY.out hb1)
            replace HB := Aside0.mk (below_step HB.out hb1)
            clear hb1 y3 K3
            cases b3 with
            | true =>
              go_wp2_with fail
              obtain rfl := HH.out 2 (by simp [svX, hix, ← E1.out, ← E2.out, ← E3.out]) (by decide)
              go_ret
              exact ⟨by rfl, HB.out⟩
            | false =>
              have y4 : v5.cell? ⟨gb, 4, none⟩ = some (.int .i64 x.f4) := (blk_cell HY.out 4).trans rfl
              go_wp2_with fail
              refine (K4.out _).mono ?_
              rintro e v6 ⟨rfl, hb1⟩
              replace HX := Aside0.mk (blk_below HX.out hb1)
              replace HY := Aside0.mk (blk_below HY.out hb1)
              replace HB := Aside0.mk (below_step HB.out hb1)
              clear hb1 y4 K4
              cases b4 with
              | true =>
                go_wp2_with fail
                obtain rfl := HH.out 2 (by simp [svX, hix, ← E1.out, ← E2.out, ← E3.out, ← E4.out]) (by decide)
                go_ret
                exact ⟨by rfl, HB.out⟩
              | false =>
                have y5 : v6.cell? ⟨gb, 5, none⟩ = some (.slice A5 x.f5.length c5) := (blk_cell HY.out 5).trans rfl
                by_cases h8 : 8 < x.f5.length
                · have z5 : decide ((8 : Int) < (x.f5.length : Int)) = true := by simp; omega
                  go_wp2_with fail
                  obtain rfl := HH.out 6 (by simp [svX, hix, ← E1.out, ← E2.out, ← E3.out, ← E4.out, h8]) (by decide)
                  go_ret
                  exact ⟨by rfl, HB.out⟩
                · have z5 : decide ((8 : Int) < (x.f5.length : Int)) = false := by simp; omega
                  have AN1 := Aside0.mk (HZ.out (by simp [svX, hix, ← E1.out, ← E2.out, ← E3.out, ← E4.out, h8]))
                  go_wp2_with fail
                  go_roundg (c.sv.length - (i + 1))
                  case measure => omega
                  case rel => exact ⟨i + 1, by omega, by omega, by first | rfl | go_num, HX, HB, AN1⟩
  · obtain rfl : i = c.sv.length := by omega
    have hz1 : decide (c.sv.length < c.sv.length) = false := by simp
    have hz2 : decide ((c.sv.length : Int) < (c.sv.length : Int)) = false := by simp
    clear hlt hi hgi
    have q1 : wr.cell? ⟨w.heap.size, 1, none⟩ = some (.slice A1 c.sv.length c1) := (blk_cell HX.out 1).trans rfl
    go_wp2_with fail
    clear q1
    go_loopg [5, 6, 8, 9, 58] c.sv.length (fun gg s5 s6 s8 s9 s58 wr => ∃ i : Nat, i ≤ c.sv.length ∧ c.sv.length - i ≤ gg ∧ s58 = .int .i64 (i : Int) ∧ Aside0 (wr.heap[w.heap.size]? = some (.cells (c.cells ⟨A1, c1, A2, c2, A3, c3, A4, c4⟩) 31 (0, 0))) ∧ Aside0 (Below w.heap.size w wr) ∧ Aside0 (∀ j, j < i → callsE c.sv j = 0))
    case atStart => exact ⟨0, Nat.zero_le _, by omega, rfl, HX, HB, ⟨fun j hj => absurd hj (Nat.not_lt_zero _)⟩⟩
    case round =>
    clear HX HB hz1 hz2
    obtain ⟨i, hi, hgi, rfl, HX, HB, AM⟩ := hrel
    by_cases hlt : i < c.sv.length
    · have HH : Aside0 (∀ v, callsE c.sv i = v → v ≠ 0 → R = v) := ⟨fun v hv h0 => by rw [← hv]; exact R2.out AN.out i hlt AM.out (by rw [hv]; exact h0)⟩
      obtain ⟨ad, A5, c5, e, t0, t1, t2, t3, t4, t5, l5, k5⟩ := at_T64 HR.out.r1 (i : Int) (by omega) (by omega)
      dsimp only at e
      subst e
      simp only [Int.toNat_natCast] at t0 t1 t2 t3 t4 t5
      replace t0 := (HB.out.cell (World.block_lt_of_cell? _ _ t0)).trans t0
      replace t1 := (HB.out.cell (World.block_lt_of_cell? _ _ t1)).trans t1
      replace t2 := (HB.out.cell (World.block_lt_of_cell? _ _ t2)).trans t2
      replace t3 := (HB.out.cell (World.block_lt_of_cell? _ _ t3)).trans t3
      replace t4 := (HB.out.cell (World.block_lt_of_cell? _ _ t4)).trans t4
      replace t5 := (HB.out.cell (World.block_lt_of_cell? _ _ t5)).trans t5
      have K5 := Aside0.mk (Kd.C_below k5 HB.out)
      clear k5
      have HZ : Aside0 (callsE c.sv i = 0 → ∀ j, j < i + 1 → callsE c.sv j = 0) := ⟨ext0 (callsE c.sv) i AM.out⟩
      replace HH : Aside0 (∀ k, k < (rd_T64 c.sv i).f5.length → (∀ j, j < k → callX (svIdx c.sv (rdOf ByteArray.empty (rd_T64 c.sv i).f5 j)) i = 0) → ∀ v, callX (svIdx c.sv (rdOf ByteArray.empty (rd_T64 c.sv i).f5 k)) i = v → v ≠ 0 → R = v) := ⟨fun k hk h v hv h0 => HH.out v ((fstE_hit (callE c.sv i) k h (by show callX _ i ≠ 0; rw [hv]; exact h0) _ hk).trans hv) h0⟩
      replace HZ : Aside0 ((∀ j, j < (rd_T64 c.sv i).f5.length → callX (svIdx c.sv (rdOf ByteArray.empty (rd_T64 c.sv i).f5 j)) i = 0) → ∀ j, j < i + 1 → callsE c.sv j = 0) := ⟨fun h => HZ.out (fstE_zero (callE c.sv i) _ h)⟩
      generalize rd_T64 c.sv i = x at t0 t1 t2 t3 t4 t5 l5 K5 HH HZ
      have hn5 : x.f5.length ≤ 9223372036854775807 := K5.out.2.1
      have hz1 : (i : Int) < (c.sv.length : Int) := by omega
      clear AM
      go_upto_region 16 with fail
      replace K5 := Aside0.mk (Kd.C_below K5.out (below_alloc (Below.refl _ _) (.cells #[.string x.f0, .int .i64 x.f1, .int .i64 x.f2, .int .i64 x.f3, .int .i64 x.f4, .slice A5 x.f5.length c5] 64)))
      replace HX := Aside0.mk (blk_alloc HX.out (.cells #[.string x.f0, .int .i64 x.f1, .int .i64 x.f2, .int .i64 x.f3, .int .i64 x.f4, .slice A5 x.f5.length c5] 64))
      have HY := Aside0.mk (blk_new wr (.cells #[.string x.f0, .int .i64 x.f1, .int .i64 x.f2, .int .i64 x.f3, .int .i64 x.f4, .slice A5 x.f5.length c5] 64))
      replace HB := Aside0.mk (below_alloc HB.out (.cells #[.string x.f0, .int .i64 x.f1, .int .i64 x.f2, .int .i64 x.f3, .int .i64 x.f4, .slice A5 x.f5.length c5] 64))
      clear t0 t1 t2 t3 t4 t5
      generalize hgb : wr.heap.size = gb at HY ⊢
      generalize wr.alloc (.cells #[.string x.f0, .int .i64 x.f1, .int .i64 x.f2, .int .i64 x.f3, .int .i64 x.f4, .slice A5 x.f5.length c5] 64) = v0 at HX HY HB K5 ⊢
      have y5 : v0.cell? ⟨gb, 5, none⟩ = some (.slice A5 x.f5.length c5) := (blk_cell HY.out 5).trans rfl
      clear HY
      go_wp2_with fail
      clear y5
      go_loopg [8, 9, 66] x.f5.length (fun gg s8 s9 s66 wr => ∃ j : Nat, j ≤ x.f5.length ∧ x.f5.length - j ≤ gg ∧ s66 = .int .i64 (j : Int) ∧ Aside0 (wr.heap[w.heap.size]? = some (.cells (c.cells ⟨(some ad), c1, A2, c2, A3, c3, A4, c4⟩) 31 (0, 0))) ∧ Aside0 (Below w.heap.size w wr) ∧ Aside0 (Kd.string.C wr A5 x.f5.length x.f5) ∧ Aside0 (∀ k, k < j → callX (svIdx c.sv (rdOf ByteArray.empty x.f5 k)) i = 0))
      case atStart => exact ⟨0, Nat.zero_le _, by omega, rfl, HX, HB, K5, ⟨fun j hj => absurd hj (Nat.not_lt_zero _)⟩⟩
      case round =>
      clear HX HB K5
      obtain ⟨j, hj, hgj, rfl, HX, HB, K5, AK⟩ := hrel
      by_cases hlj : j < x.f5.length
      · obtain ⟨ad5, e5, u0⟩ := Kd.at_string K5.out (j : Int) (by omega) (by omega)
        subst e5
        simp only [Int.toNat_natCast] at u0
        have HG : Aside0 (∀ v, callX (svIdx c.sv (rdOf ByteArray.empty x.f5 j)) i = v → v ≠ 0 → R = v) := ⟨HH.out j hlj AK.out⟩
        have HZ2 := Aside0.mk (ext0 (fun k => callX (svIdx c.sv (rdOf ByteArray.empty x.f5 k)) i) j AK.out)
        replace HZ2 : Aside0 (callX (svIdx c.sv (rdOf ByteArray.empty x.f5 j)) i = 0 → ∀ k, k < j + 1 → callX (svIdx c.sv (rdOf ByteArray.empty x.f5 k)) i = 0) := HZ2
        have HI := Aside0.mk (fun W (p : CfgAt) (h : CfgR W p c) => index_calls c p (rdOf ByteArray.empty x.f5 j) W h)
        generalize svIdx c.sv (rdOf ByteArray.empty x.f5 j) = ix at HG HZ2 HI
        generalize rdOf ByteArray.empty x.f5 (j : Int) = nm at u0 HI
        have hz3 : (j : Int) < (x.f5.length : Int) := by omega
        clear AK
        go_upto_region 19 with fail
        clear u0
        obtain ⟨q0, q1, q2, q3, q4, q5, q6, q7, q8, q9, q10, q11⟩ := cfg12 HX.out
        go_wp2_with fail
        refine (HI.out _ ⟨(some ad), c1, A2, c2, A3, c3, A4, c4⟩ (HR.out.below HB.out)).mono ?_
        rintro e v2 ⟨rfl, hb1⟩
        replace HX := Aside0.mk (blk_below HX.out hb1)
        replace HB := Aside0.mk (below_step HB.out hb1)
        replace K5 := Aside0.mk (Kd.C_below K5.out hb1)
        clear hb1 q0 q1 q2 q3 q4 q5 q6 q7 q8 q9 q10 q11
        by_cases h0 : ix < 0
        · have z2 : decide (ix < 0) = true := decide_eq_true h0
          go_wp2_with fail
          obtain rfl := HG.out 16 (by simp [callX, h0]) (by decide)
          go_ret
          exact ⟨by rfl, HB.out⟩
        · have z2 : decide (ix < 0) = false := decide_eq_false h0
          by_cases h1 : ix ≤ (i : Int)
          · have z3 : decide (ix ≤ (i : Int)) = true := decide_eq_true h1
            go_wp2_with fail
            obtain rfl := HG.out 8 (by simp [callX, h0, h1]) (by decide)
            go_ret
            exact ⟨by rfl, HB.out⟩
          · have z3 : decide (ix ≤ (i : Int)) = false := decide_eq_false h1
            have AK1 := Aside0.mk (HZ2.out (by simp [callX, h0, h1]))
            go_wp2_with fail
            go_roundg (x.f5.length - (j + 1))
            case measure => omega
            case rel => exact ⟨j + 1, by omega, by omega, by first | rfl | go_num, HX, HB, K5, AK1⟩
      · obtain rfl : j = x.f5.length := by omega
        have hz3 : decide (x.f5.length < x.f5.length) = false := by simp
        have hz4 : decide ((x.f5.length : Int) < (x.f5.length : Int)) = false := by simp
        have AM1 := Aside0.mk (HZ.out AK.out)
        clear hlj
        go_wp2_with fail
        go_roundg (c.sv.length - (i + 1))
        case measure => omega
        case rel => exact ⟨i + 1, by omega, by omega, by first | rfl | go_num, HX, HB, AM1⟩
    · obtain rfl : i = c.sv.length := by omega
      have hz1 : decide (c.sv.length < c.sv.length) = false := by simp
      have hz2 : decide ((c.sv.length : Int) < (c.sv.length : Int)) = false := by simp
      clear hlt
      obtain rfl := R3.out AN.out AM.out
      go_wp2
      go_ret
      exact ⟨rfl, HB.out⟩
set_option maxHeartbeats 8000000 in
set_option maxRecDepth 100000 in
theorem ckO_total (c : Cfg) (p : CfgAt) (w : World) (hR : CfgR w p c) : Calls Try.prog 54 #[c.val p] w fun e w' => e = .returned (.int .i64 (ckOff c.off c.sv)) ∧ Below w.heap.size w w' := by
  obtain ⟨A1, c1, A2, c2, A3, c3, A4, c4⟩ := p
  have HR := Aside0.mk hR
  have hn1 : c.sv.length ≤ 9223372036854775807 := hR.r1.2.1
  have hn2 : c.off.length ≤ 9223372036854775807 := hR.r2.2.1
  have hn4 : c.fl.length ≤ 9223372036854775807 := hR.r4.2.1
  have HX0 := Aside0.mk (blk_new w (.cells (c.cells ⟨A1, c1, A2, c2, A3, c3, A4, c4⟩) 31))
  have HB0 := Aside0.mk (below_alloc (Below.refl w.heap.size w) (.cells (c.cells ⟨A1, c1, A2, c2, A3, c3, A4, c4⟩) 31))
  obtain ⟨R1, R2, R3⟩ := first2 (offE c.off) (gapE c.off c.sv) c.off.length c.sv.length _ ((rfl : ckOff c.off c.sv = _))
  generalize ckOff c.off c.sv = R at R1 R2 R3 ⊢
  replace R1 := Aside0.mk R1
  replace R2 := Aside0.mk R2
  replace R3 := Aside0.mk R3
  clear hR
  go_enter Try.func54, Try.ntmps54
  go_wp2_with fail
  go_loopg [3, 4, 12] c.off.length (fun gg s3 s4 s12 wr => ∃ i : Nat, i ≤ c.off.length ∧ c.off.length - i ≤ gg ∧ s12 = .int .i64 (i : Int) ∧ Aside0 (wr.heap[w.heap.size]? = some (.cells (c.cells ⟨A1, c1, A2, c2, A3, c3, A4, c4⟩) 31 (0, 0))) ∧ Aside0 (Below w.heap.size w wr) ∧ Aside0 (∀ j, j < i → offE c.off j = 0))
  case atStart => exact ⟨0, Nat.zero_le _, by omega, rfl, HX0, HB0, ⟨fun j hj => absurd hj (Nat.not_lt_zero _)⟩⟩
  case round =>
  clear HX0 HB0
  obtain ⟨i, hi, hgi, rfl, HX, HB, AN⟩ := hrel
  by_cases hlt : i < c.off.length
  · have HH : Aside0 (∀ v, offX (rd_T91 c.off i) (rd_T91 c.off ((i : Int) - 1)).f0 i = v → v ≠ 0 → R = v) := ⟨fun v hv h0 => by rw [← hv]; exact R1.out i hlt AN.out (by show offX _ _ _ ≠ 0; rw [hv]; exact h0)⟩
    have HZ : Aside0 (offX (rd_T91 c.off i) (rd_T91 c.off ((i : Int) - 1)).f0 i = 0 → ∀ j, j < i + 1 → offE c.off j = 0) := ⟨ext0 (offE c.off) i AN.out⟩
    obtain ⟨ad, e, t0, t1⟩ := at_T91 HR.out.r2 (i : Int) (by omega) (by omega)
    dsimp only at e
    subst e
    simp only [Int.toNat_natCast] at t0 t1
    replace t0 := (HB.out.cell (World.block_lt_of_cell? _ _ t0)).trans t0
    replace t1 := (HB.out.cell (World.block_lt_of_cell? _ _ t1)).trans t1
    have hu : Aside0 (0 < i → ∃ a2 : Addr, w.cell? (ad.add ((i - 1) * 2)) = some (.int .i64 (rd_T91 c.off ((i : Int) - 1)).f0)) := ⟨fun h => ⟨ad, by
      obtain ⟨ad2, e2, u0, -⟩ := at_T91 HR.out.r2 ((i - 1 : Nat) : Int) (by omega) (by omega)
      dsimp only at e2
      obtain rfl : ad = ad2 := by injection e2
      simp only [Int.toNat_natCast] at u0
      rw [show (i : Int) - 1 = ((i - 1 : Nat) : Int) from by omega]
      exact u0⟩⟩
    generalize (rd_T91 c.off ((i : Int) - 1)).f0 = y at HH HZ hu
    generalize rd_T91 c.off (i : Int) = x at t0 t1 HH HZ
    have hz1 : (i : Int) < (c.off.length : Int) := by omega
    clear AN
    have K1 := Aside0.mk (fun W => bad_calls x.f0 1 1048576 W)
    obtain ⟨b1, hb1_⟩ : ∃ b, b = bad x.f0 1 1048576 := ⟨_, rfl⟩
    rw [← hb1_] at K1
    have E1 := Aside0.mk hb1_
    clear hb1_
    have K2 := Aside0.mk (fun W => bad_calls x.f1 (-1048576) 1048576 W)
    obtain ⟨b2, hb2_⟩ : ∃ b, b = bad x.f1 (-1048576) 1048576 := ⟨_, rfl⟩
    rw [← hb2_] at K2
    have E2 := Aside0.mk hb2_
    clear hb2_
    go_upto_region 4 with fail
    replace HX := Aside0.mk (blk_alloc HX.out (.cells #[.int .i64 x.f0, .int .i64 x.f1] 91))
    have HY := Aside0.mk (blk_new wr (.cells #[.int .i64 x.f0, .int .i64 x.f1] 91))
    replace HB := Aside0.mk (below_alloc HB.out (.cells #[.int .i64 x.f0, .int .i64 x.f1] 91))
    clear t0 t1
    generalize hgb : wr.heap.size = gb at HY ⊢
    generalize wr.alloc (.cells #[.int .i64 x.f0, .int .i64 x.f1] 91) = v0 at HX HY HB ⊢
    have y0 : v0.cell? ⟨gb, 0, none⟩ = some (.int .i64 x.f0) := (blk_cell HY.out 0).trans rfl
    go_wp2_with fail
    refine (K1.out _).mono ?_
    rintro e v1 ⟨rfl, hb1⟩
    replace HX := Aside0.mk (blk_below HX.out hb1)
    replace HY := Aside0.mk (blk_below HY.out hb1)
    replace HB := Aside0.mk (below_step HB.out hb1)
    clear hb1 y0 K1
    cases b1 with
    | true =>
      go_wp2_with fail
      obtain rfl := HH.out 2 (by simp [offX, ← E1.out]) (by decide)
      go_ret
      exact ⟨by rfl, HB.out⟩
    | false =>
      have y1 : v1.cell? ⟨gb, 1, none⟩ = some (.int .i64 x.f1) := (blk_cell HY.out 1).trans rfl
      go_wp2_with fail
      refine (K2.out _).mono ?_
      rintro e v2 ⟨rfl, hb1⟩
      replace HX := Aside0.mk (blk_below HX.out hb1)
      replace HY := Aside0.mk (blk_below HY.out hb1)
      replace HB := Aside0.mk (below_step HB.out hb1)
      clear hb1 y1 K2
      cases b2 with
      | true =>
        go_wp2_with fail
        obtain rfl := HH.out 2 (by simp [offX, ← E1.out, ← E2.out]) (by decide)
        go_ret
        exact ⟨by rfl, HB.out⟩
      | false =>
        have y0 : v2.cell? ⟨gb, 0, none⟩ = some (.int .i64 x.f0) := (blk_cell HY.out 0).trans rfl
        have y2 : v2.cell? ⟨w.heap.size, 2, none⟩ = some (.slice (some ad) c.off.length c2) := (blk_cell HX.out 2).trans rfl
        go_upto_region 6 with fail
        by_cases h0 : 0 < i
        · have h0_1 : decide (0 < i) = true := decide_eq_true h0
          have h0_2 : (0 < i) = True := eq_true h0
          obtain ⟨_, u0⟩ := hu.out h0
          replace u0 := (HB.out.cell (World.block_lt_of_cell? _ _ u0)).trans u0
          have k1 : IntKind.i64.wrap ((i : Int) - 1) = ((i - 1 : Nat) : Int) := by rw [IntWalk.i64_in _ (by omega)]; omega
          have k2 : decide ((0 : Int) < (i : Int)) = true := by simp; omega
          have k4 : ((i - 1 : Nat) : Int) < (c.off.length : Int) := by omega
          have k5 : (0 : Int) ≤ ((i - 1 : Nat) : Int) := by omega
          by_cases hy : x.f0 ≤ y
          · have hy_1 : decide (x.f0 ≤ y) = true := decide_eq_true hy
            have hy_2 : (x.f0 ≤ y) = True := eq_true hy
            refine start_ (n := 15) (S := fun w' => Below v2.heap.size v2 w') (ds := []) #[false, false, false, false, false, false, false, false, false, false, false, false, false, false, false] (by kernel_rfl) rfl rfl (Below.refl _ _).drew (fun hHeld => ?_)
            refine with_tabW ckoT.tab6 ckoT.bits6 (fun HT_ HW_ => ?_)
            generalize v2.drew = wd at hHeld ⊢
            refine pu_ 0 (some 27) (bq 15 1) HT_ rfl rfl ?_
            refine pu_ 1 (some 28) (bq 15 3) HT_ rfl rfl ?_
            refine pu_ 2 (some 29) (bq 15 7) HT_ rfl rfl ?_
            refine pu_ 3 (some 30) (bq 15 15) HT_ rfl rfl ?_
            refine tk_ 4 (some 31) (bq 15 31) HT_ HW_ rfl rfl hHeld ?_ (by intro w' hS; replace y0 := below_at hS y0; go_simp; with_reducible rfl)
            refine pu_ 5 (some 32) (bq 15 63) HT_ rfl rfl ?_
            refine tk_ 6 (some 33) (bq 15 127) HT_ HW_ rfl rfl hHeld ?_ (by intro w' hS; replace y2 := below_at hS y2; go_simp; with_reducible rfl)
            refine pu_ 7 (some 34) (bq 15 255) HT_ rfl rfl ?_
            refine pu_ 8 (some 35) (bq 15 511) HT_ rfl rfl ?_
            refine pu_ 9 (some 36) (bq 15 1023) HT_ rfl rfl ?_
            refine pu_ 10 (some 37) (bq 15 2047) HT_ rfl rfl ?_
            refine tk_ 11 (some 38) (bq 15 4095) HT_ HW_ rfl rfl hHeld ?_ (by intro w' hS; replace u0 := below_at hS u0; go_simp; with_reducible rfl)
            refine pu_ 12 (some 39) (bq 15 8191) HT_ rfl rfl ?_
            refine pu_ 13 (some 40) (bq 15 16383) HT_ rfl rfl ?_
            refine pu_ 14 (some 26) (bq 15 32767) HT_ rfl rfl ?_
            refine done_ (done_of HT_.out (by kernel_rfl)) ?_
            replace HX := Aside0.mk (blk_below HX.out hHeld)
            replace HB := Aside0.mk (below_step HB.out hHeld)
            clear u0 y0 y2
            go_wp2_with fail
            obtain rfl := HH.out 8 (by simp [offX, ← E1.out, ← E2.out, h0, hy]) (by decide)
            go_ret
            exact ⟨by rfl, HB.out⟩
          · have hy_1 : decide (x.f0 ≤ y) = false := decide_eq_false hy
            have hy_2 : (x.f0 ≤ y) = False := eq_false hy
            refine start_ (n := 15) (S := fun w' => Below v2.heap.size v2 w') (ds := []) #[false, false, false, false, false, false, false, false, false, false, false, false, false, false, false] (by kernel_rfl) rfl rfl (Below.refl _ _).drew (fun hHeld => ?_)
            refine with_tabW ckoT.tab6 ckoT.bits6 (fun HT_ HW_ => ?_)
            generalize v2.drew = wd at hHeld ⊢
            refine pu_ 0 (some 27) (bq 15 1) HT_ rfl rfl ?_
            refine pu_ 1 (some 28) (bq 15 3) HT_ rfl rfl ?_
            refine pu_ 2 (some 29) (bq 15 7) HT_ rfl rfl ?_
            refine pu_ 3 (some 30) (bq 15 15) HT_ rfl rfl ?_
            refine tk_ 4 (some 31) (bq 15 31) HT_ HW_ rfl rfl hHeld ?_ (by intro w' hS; replace y0 := below_at hS y0; go_simp; with_reducible rfl)
            refine pu_ 5 (some 32) (bq 15 63) HT_ rfl rfl ?_
            refine tk_ 6 (some 33) (bq 15 127) HT_ HW_ rfl rfl hHeld ?_ (by intro w' hS; replace y2 := below_at hS y2; go_simp; with_reducible rfl)
            refine pu_ 7 (some 34) (bq 15 255) HT_ rfl rfl ?_
            refine pu_ 8 (some 35) (bq 15 511) HT_ rfl rfl ?_
            refine pu_ 9 (some 36) (bq 15 1023) HT_ rfl rfl ?_
            refine pu_ 10 (some 37) (bq 15 2047) HT_ rfl rfl ?_
            refine tk_ 11 (some 38) (bq 15 4095) HT_ HW_ rfl rfl hHeld ?_ (by intro w' hS; replace u0 := below_at hS u0; go_simp; with_reducible rfl)
            refine pu_ 12 (some 39) (bq 15 8191) HT_ rfl rfl ?_
            refine pu_ 13 (some 40) (bq 15 16383) HT_ rfl rfl ?_
            refine pu_ 14 (some 26) (bq 15 32767) HT_ rfl rfl ?_
            refine done_ (done_of HT_.out (by kernel_rfl)) ?_
            replace HX := Aside0.mk (blk_below HX.out hHeld)
            replace HB := Aside0.mk (below_step HB.out hHeld)
            clear u0 y0 y2
            have AN1 := Aside0.mk (HZ.out (by simp [offX, ← E1.out, ← E2.out, h0, hy]))
            go_wp2_with fail
            go_roundg (c.off.length - (i + 1))
            case measure => omega
            case rel => exact ⟨i + 1, by omega, by omega, by first | rfl | go_num, HX, HB, AN1⟩
        · have h0_1 : decide (0 < i) = false := decide_eq_false h0
          have h0_2 : (0 < i) = False := eq_false h0
          have k2 : decide ((0 : Int) < (i : Int)) = false := by simp; omega
          refine start_ (n := 15) (S := fun w' => Below v2.heap.size v2 w') (ds := []) #[false, false, false, false, false, false, false, false, false, false, false, false, false, false, false] (by kernel_rfl) rfl rfl (Below.refl _ _).drew (fun hHeld => ?_)
          refine with_tabW ckoT.tab6 ckoT.bits6 (fun HT_ HW_ => ?_)
          generalize v2.drew = wd at hHeld ⊢
          refine pu_ 0 (some 27) (bq 15 1) HT_ rfl rfl ?_
          refine pu_ 1 (some 28) (bq 15 3) HT_ rfl rfl ?_
          refine pu_ 2 (some 29) (bq 15 7) HT_ rfl rfl ?_
          refine po_ 3 (some 30) (bq 15 15) HT_ rfl rfl ?_
          refine to_ 4 (some 31) (bq 15 31) HT_ HW_ rfl rfl hHeld ?_
          refine po_ 5 (some 32) (bq 15 63) HT_ rfl rfl ?_
          refine to_ 6 (some 33) (bq 15 127) HT_ HW_ rfl rfl hHeld ?_
          refine po_ 7 (some 34) (bq 15 255) HT_ rfl rfl ?_
          refine po_ 8 (some 35) (bq 15 511) HT_ rfl rfl ?_
          refine po_ 9 (some 36) (bq 15 1023) HT_ rfl rfl ?_
          refine po_ 10 (some 37) (bq 15 2047) HT_ rfl rfl ?_
          refine to_ 11 (some 38) (bq 15 4095) HT_ HW_ rfl rfl hHeld ?_
          refine po_ 12 (some 39) (bq 15 8191) HT_ rfl rfl ?_
          refine pu_ 13 (some 40) (bq 15 16383) HT_ rfl rfl ?_
          refine pu_ 14 (some 26) (bq 15 32767) HT_ rfl rfl ?_
          refine done_ (done_of HT_.out (by kernel_rfl)) ?_
          replace HX := Aside0.mk (blk_below HX.out hHeld)
          replace HB := Aside0.mk (below_step HB.out hHeld)
          clear y0 y2
          have AN1 := Aside0.mk (HZ.out (by simp [offX, ← E1.out, ← E2.out, h0]))
          go_wp2_with fail
          go_roundg (c.off.length - (i + 1))
          case measure => omega
          case rel => exact ⟨i + 1, by omega, by omega, by first | rfl | go_num, HX, HB, AN1⟩
  · obtain rfl : i = c.off.length := by omega
    have hz1 : decide (c.off.length < c.off.length) = false := by simp
    have hz2 : decide ((c.off.length : Int) < (c.off.length : Int)) = false := by simp
    clear hlt hi hgi
    have q1 : wr.cell? ⟨w.heap.size, 1, none⟩ = some (.slice A1 c.sv.length c1) := (blk_cell HX.out 1).trans rfl
    go_wp2_with fail
    clear q1
    go_loopg [6, 7, 8, 45] c.sv.length (fun gg s6 s7 s8 s45 wr => ∃ i : Nat, i ≤ c.sv.length ∧ c.sv.length - i ≤ gg ∧ s45 = .int .i64 (i : Int) ∧ Aside0 (wr.heap[w.heap.size]? = some (.cells (c.cells ⟨A1, c1, A2, c2, A3, c3, A4, c4⟩) 31 (0, 0))) ∧ Aside0 (Below w.heap.size w wr) ∧ Aside0 (∀ j, j < i → gapE c.off c.sv j = 0))
    case atStart => exact ⟨0, Nat.zero_le _, by omega, rfl, HX, HB, ⟨fun j hj => absurd hj (Nat.not_lt_zero _)⟩⟩
    case round =>
    clear HX HB
    obtain ⟨i, hi, hgi, rfl, HX, HB, AM⟩ := hrel
    by_cases hlt : i < c.sv.length
    · have HH : Aside0 (∀ v, gapX (offOf c.off (rd_T64 c.sv i).f1).2 = v → v ≠ 0 → R = v) := ⟨fun v hv h0 => by rw [← hv]; exact R2.out AN.out i hlt AM.out (by show gapX _ ≠ 0; rw [hv]; exact h0)⟩
      have HZ : Aside0 (gapX (offOf c.off (rd_T64 c.sv i).f1).2 = 0 → ∀ j, j < i + 1 → gapE c.off c.sv j = 0) := ⟨ext0 (gapE c.off c.sv) i AM.out⟩
      obtain ⟨ad, A5, c5, e, t0, t1, t2, t3, t4, t5, l5, k5⟩ := at_T64 HR.out.r1 (i : Int) (by omega) (by omega)
      dsimp only at e
      subst e
      simp only [Int.toNat_natCast] at t0 t1 t2 t3 t4 t5
      replace t0 := (HB.out.cell (World.block_lt_of_cell? _ _ t0)).trans t0
      replace t1 := (HB.out.cell (World.block_lt_of_cell? _ _ t1)).trans t1
      replace t2 := (HB.out.cell (World.block_lt_of_cell? _ _ t2)).trans t2
      replace t3 := (HB.out.cell (World.block_lt_of_cell? _ _ t3)).trans t3
      replace t4 := (HB.out.cell (World.block_lt_of_cell? _ _ t4)).trans t4
      replace t5 := (HB.out.cell (World.block_lt_of_cell? _ _ t5)).trans t5
      clear k5
      have HO := Aside0.mk (fun W (p : CfgAt) (h : CfgR W p c) => offset_calls c p (rd_T64 c.sv i).f1 W h)
      generalize offOf c.off (rd_T64 c.sv i).f1 = oo at HH HZ HO
      generalize rd_T64 c.sv i = x at t0 t1 t2 t3 t4 t5 l5 HO
      have hz1 : (i : Int) < (c.sv.length : Int) := by omega
      clear AM hz2
      go_upto_region 12 with fail
      replace HX := Aside0.mk (blk_alloc HX.out (.cells #[.string x.f0, .int .i64 x.f1, .int .i64 x.f2, .int .i64 x.f3, .int .i64 x.f4, .slice A5 x.f5.length c5] 64))
      have HY := Aside0.mk (blk_new wr (.cells #[.string x.f0, .int .i64 x.f1, .int .i64 x.f2, .int .i64 x.f3, .int .i64 x.f4, .slice A5 x.f5.length c5] 64))
      replace HB := Aside0.mk (below_alloc HB.out (.cells #[.string x.f0, .int .i64 x.f1, .int .i64 x.f2, .int .i64 x.f3, .int .i64 x.f4, .slice A5 x.f5.length c5] 64))
      clear t0 t1 t2 t3 t4 t5
      generalize hgb : wr.heap.size = gb at HY ⊢
      generalize wr.alloc (.cells #[.string x.f0, .int .i64 x.f1, .int .i64 x.f2, .int .i64 x.f3, .int .i64 x.f4, .slice A5 x.f5.length c5] 64) = v0 at HX HY HB ⊢
      obtain ⟨q0, q1, q2, q3, q4, q5, q6, q7, q8, q9, q10, q11⟩ := cfg12 HX.out
      have y1 : v0.cell? ⟨gb, 1, none⟩ = some (.int .i64 x.f1) := (blk_cell HY.out 1).trans rfl
      clear HY
      obtain ⟨o1, o2⟩ := oo
      go_wp2_with fail
      refine (HO.out _ ⟨(some ad), c1, A2, c2, A3, c3, A4, c4⟩ (HR.out.below HB.out)).mono ?_
      rintro e v3 ⟨rfl, hb1⟩
      replace HX := Aside0.mk (blk_below HX.out hb1)
      replace HB := Aside0.mk (below_step HB.out hb1)
      clear hb1 y1 q0 q1 q2 q3 q4 q5 q6 q7 q8 q9 q10 q11
      cases o2 with
      | false =>
        go_wp2_with fail
        obtain rfl := HH.out 34 (by simp [gapX]) (by decide)
        go_ret
        exact ⟨by rfl, HB.out⟩
      | true =>
        have AM1 := Aside0.mk (HZ.out (by simp [gapX]))
        go_wp2_with fail
        go_roundg (c.sv.length - (i + 1))
        case measure => omega
        case rel => exact ⟨i + 1, by omega, by omega, by first | rfl | go_num, HX, HB, AM1⟩
    · obtain rfl : i = c.sv.length := by omega
      have hz1 : decide (c.sv.length < c.sv.length) = false := by simp
      have hz2 : decide ((c.sv.length : Int) < (c.sv.length : Int)) = false := by simp
      clear hlt
      obtain rfl := R3.out AN.out AM.out
      go_wp2
      go_ret
      exact ⟨rfl, HB.out⟩
set_option maxHeartbeats 8000000 in
set_option maxRecDepth 100000 in
theorem ckF_total (c : Cfg) (p : CfgAt) (w : World) (hR : CfgR w p c) : Calls Try.prog 56 #[c.val p] w fun e w' => e = .returned (.int .i64 (ckFl c.sv c.fl)) ∧ Below w.heap.size w w' := by
  obtain ⟨A1, c1, A2, c2, A3, c3, A4, c4⟩ := p
  have HR := Aside0.mk hR
  have hn1 : c.sv.length ≤ 9223372036854775807 := hR.r1.2.1
  have hn2 : c.off.length ≤ 9223372036854775807 := hR.r2.2.1
  have hn4 : c.fl.length ≤ 9223372036854775807 := hR.r4.2.1
  have HX0 := Aside0.mk (blk_new w (.cells (c.cells ⟨A1, c1, A2, c2, A3, c3, A4, c4⟩) 31))
  have HB0 := Aside0.mk (below_alloc (Below.refl w.heap.size w) (.cells (c.cells ⟨A1, c1, A2, c2, A3, c3, A4, c4⟩) 31))
  have R1 : Aside0 (∀ i, i < c.fl.length → (∀ j, j < i → flE c.sv c.fl j = 0) → flE c.sv c.fl i ≠ 0 → ckFl c.sv c.fl = flE c.sv c.fl i) := ⟨fun i hi h he => fstE_hit _ i h he _ hi⟩
  have R3 : Aside0 ((∀ j, j < c.fl.length → flE c.sv c.fl j = 0) → ckFl c.sv c.fl = 0) := ⟨fun h => fstE_zero _ _ h⟩
  generalize ckFl c.sv c.fl = R at R1 R3 ⊢
  clear hR
  go_enter Try.func56, Try.ntmps56
  go_wp2_with fail
  go_loopg [4, 8] c.fl.length (fun gg s4 s8 wr => ∃ i : Nat, i ≤ c.fl.length ∧ c.fl.length - i ≤ gg ∧ s8 = .int .i64 (i : Int) ∧ Aside0 (wr.heap[w.heap.size]? = some (.cells (c.cells ⟨A1, c1, A2, c2, A3, c3, A4, c4⟩) 31 (0, 0))) ∧ Aside0 (Below w.heap.size w wr) ∧ Aside0 (∀ j, j < i → flE c.sv c.fl j = 0))
  case atStart => exact ⟨0, Nat.zero_le _, by omega, rfl, HX0, HB0, ⟨fun j hj => absurd hj (Nat.not_lt_zero _)⟩⟩
  case round =>
  clear HX0 HB0
  obtain ⟨i, hi, hgi, rfl, HX, HB, AN⟩ := hrel
  by_cases hlt : i < c.fl.length
  · have HH : Aside0 (∀ v, flX (svIdx c.sv (rd_T61 c.fl i).f0) (nameB (rd_T61 c.fl i).f1) (rd_T61 c.fl i) = v → v ≠ 0 → R = v) := ⟨fun v hv h0 => by rw [← hv]; exact R1.out i hlt AN.out (by show flX _ _ _ ≠ 0; rw [hv]; exact h0)⟩
    have HZ : Aside0 (flX (svIdx c.sv (rd_T61 c.fl i).f0) (nameB (rd_T61 c.fl i).f1) (rd_T61 c.fl i) = 0 → ∀ j, j < i + 1 → flE c.sv c.fl j = 0) := ⟨ext0 (flE c.sv c.fl) i AN.out⟩
    obtain ⟨ad, e, t0, t1, t2, t3, t4, t5⟩ := at_T61 HR.out.r4 (i : Int) (by omega) (by omega)
    dsimp only at e
    subst e
    simp only [Int.toNat_natCast] at t0 t1 t2 t3 t4 t5
    replace t0 := (HB.out.cell (World.block_lt_of_cell? _ _ t0)).trans t0
    replace t1 := (HB.out.cell (World.block_lt_of_cell? _ _ t1)).trans t1
    replace t2 := (HB.out.cell (World.block_lt_of_cell? _ _ t2)).trans t2
    replace t3 := (HB.out.cell (World.block_lt_of_cell? _ _ t3)).trans t3
    replace t4 := (HB.out.cell (World.block_lt_of_cell? _ _ t4)).trans t4
    replace t5 := (HB.out.cell (World.block_lt_of_cell? _ _ t5)).trans t5
    have HI := Aside0.mk (fun W (p : CfgAt) (h : CfgR W p c) => index_calls c p (rd_T61 c.fl i).f0 W h)
    have HNB := Aside0.mk (fun W => nameB_calls (rd_T61 c.fl i).f1 W)
    generalize svIdx c.sv (rd_T61 c.fl i).f0 = ix at HH HZ HI
    generalize nameB (rd_T61 c.fl i).f1 = nb at HH HZ HNB
    generalize rd_T61 c.fl (i : Int) = x at t0 t1 t2 t3 t4 t5 HH HZ HI HNB
    have hz1 : (i : Int) < (c.fl.length : Int) := by omega
    clear AN
    have K1 := Aside0.mk (fun W => bad_calls x.f3 0 1048576 W)
    obtain ⟨b1, hb1_⟩ : ∃ b, b = bad x.f3 0 1048576 := ⟨_, rfl⟩
    rw [← hb1_] at K1
    have E1 := Aside0.mk hb1_
    clear hb1_
    have K2 := Aside0.mk (fun W => bad_calls x.f4 0 1000000 W)
    obtain ⟨b2, hb2_⟩ : ∃ b, b = bad x.f4 0 1000000 := ⟨_, rfl⟩
    rw [← hb2_] at K2
    have E2 := Aside0.mk hb2_
    clear hb2_
    go_upto_region 4 with fail
    replace HX := Aside0.mk (blk_alloc HX.out (.cells #[.string x.f0, .string x.f1, .int .i64 x.f2.f0, .int .i64 x.f2.f1, .int .i64 x.f3, .int .i64 x.f4] 61))
    have HY := Aside0.mk (blk_new wr (.cells #[.string x.f0, .string x.f1, .int .i64 x.f2.f0, .int .i64 x.f2.f1, .int .i64 x.f3, .int .i64 x.f4] 61))
    replace HB := Aside0.mk (below_alloc HB.out (.cells #[.string x.f0, .string x.f1, .int .i64 x.f2.f0, .int .i64 x.f2.f1, .int .i64 x.f3, .int .i64 x.f4] 61))
    clear t0 t1 t2 t3 t4 t5
    generalize hgb : wr.heap.size = gb at HY ⊢
    generalize wr.alloc (.cells #[.string x.f0, .string x.f1, .int .i64 x.f2.f0, .int .i64 x.f2.f1, .int .i64 x.f3, .int .i64 x.f4] 61) = v0 at HX HY HB ⊢
    obtain ⟨q0, q1, q2, q3, q4, q5, q6, q7, q8, q9, q10, q11⟩ := cfg12 HX.out
    have y0 : v0.cell? ⟨gb, 0, none⟩ = some (.string x.f0) := (blk_cell HY.out 0).trans rfl
    go_wp2_with fail
    refine (HI.out _ ⟨A1, c1, A2, c2, A3, c3, (some ad), c4⟩ (HR.out.below HB.out)).mono ?_
    rintro e v1 ⟨rfl, hb1⟩
    replace HX := Aside0.mk (blk_below HX.out hb1)
    replace HY := Aside0.mk (blk_below HY.out hb1)
    replace HB := Aside0.mk (below_step HB.out hb1)
    clear hb1 y0 q0 q1 q2 q3 q4 q5 q6 q7 q8 q9 q10 q11
    by_cases hix : ix < 0
    · have hix_1 : decide (ix < 0) = true := decide_eq_true hix
      have hix_2 : (ix < 0) = True := eq_true hix
      go_wp2_with fail
      obtain rfl := HH.out 16 (by simp [flX, hix]) (by decide)
      go_ret
      exact ⟨by rfl, HB.out⟩
    · have hix_1 : decide (ix < 0) = false := decide_eq_false hix
      have hix_2 : (ix < 0) = False := eq_false hix
      have y1 : v1.cell? ⟨gb, 1, none⟩ = some (.string x.f1) := (blk_cell HY.out 1).trans rfl
      go_upto_region 6 with fail
      obtain ⟨nk, hnk⟩ : ∃ nk : Bool, nk = (!x.f1.toList.isEmpty && !nb) := ⟨_, rfl⟩
      have HNK := Aside0.mk hnk
      clear hnk
      go_cut [18] (fun s18 wz => s18 = .bool nk ∧ Aside0 (wz.heap[w.heap.size]? = some (.cells (c.cells ⟨A1, c1, A2, c2, A3, c3, (some ad), c4⟩) 31 (0, 0))) ∧ Aside0 (wz.heap[gb]? = some (.cells #[.string x.f0, .string x.f1, .int .i64 x.f2.f0, .int .i64 x.f2.f1, .int .i64 x.f3, .int .i64 x.f4] 61 (0, 0))) ∧ Aside0 (Below w.heap.size w wz))
      case first =>
        cases hE : x.f1.toList.isEmpty with
        | true =>
          obtain rfl : nk = false := by rw [HNK.out, hE]; rfl
          go_wp2_with fail
          go_meet
          exact ⟨rfl, HX, HY, HB⟩
        | false =>
          obtain rfl : nk = !nb := by rw [HNK.out, hE]; simp
          go_wp2_with fail
          refine (HNB.out _).mono ?_
          rintro e v2 ⟨rfl, hb1⟩
          replace HX := Aside0.mk (blk_below HX.out hb1)
          replace HY := Aside0.mk (blk_below HY.out hb1)
          replace HB := Aside0.mk (below_step HB.out hb1)
          clear hb1 y1
          go_wp2_with fail
          go_meet
          exact ⟨by simp, HX, HY, HB⟩
      case rest =>
      clear HX HY HB y1
      obtain ⟨rfl, HX, HY, HB⟩ := hcut
      have y2 : wc.cell? ⟨gb, 2, none⟩ = some (.int .i64 x.f2.f0) := (blk_cell HY.out 2).trans rfl
      have y3 : wc.cell? ⟨gb, 3, none⟩ = some (.int .i64 x.f2.f1) := (blk_cell HY.out 3).trans rfl
      cases nk with
      | true =>
        have hE : x.f1.toList ≠ [] ∧ nb = false := by
          have h := HNK.out
          cases hb : nb with
          | true => rw [hb] at h; simp at h
          | false => rw [hb] at h; simpa using h
        clear HNK
        go_wp2_with fail
        obtain rfl := HH.out 11 (by simp [flX, hix, hE.1, hE.2]) (by decide)
        go_ret
        exact ⟨by rfl, HB.out⟩
      | false =>
        have hE : ¬ (x.f1.toList ≠ [] ∧ nb = false) := fun h => by
          have h2 := HNK.out
          rw [h.2] at h2
          simp at h2
          exact h.1 h2
        have HE := Aside0.mk hE
        clear HNK hE
        by_cases h1 : x.f2.f0 < 0
        · have h1_1 : decide (x.f2.f0 < 0) = true := decide_eq_true h1
          have h1_2 : (x.f2.f0 < 0) = True := eq_true h1
          have hcase : flX ix nb x = 32 := by unfold flX; rw [if_neg (by omega), if_neg HE.out, if_pos (by omega)]
          go_wp2_with fail
          obtain rfl := HH.out 32 hcase (by decide)
          go_ret
          exact ⟨by rfl, HB.out⟩
        · have h1_1 : decide (x.f2.f0 < 0) = false := decide_eq_false h1
          have h1_2 : (x.f2.f0 < 0) = False := eq_false h1
          by_cases h2 : x.f2.f1 ≤ x.f2.f0
          · have h2_1 : decide (x.f2.f1 ≤ x.f2.f0) = true := decide_eq_true h2
            have h2_2 : (x.f2.f1 ≤ x.f2.f0) = True := eq_true h2
            have hcase : flX ix nb x = 32 := by unfold flX; rw [if_neg (by omega), if_neg HE.out, if_pos (by omega)]
            go_wp2_with fail
            obtain rfl := HH.out 32 hcase (by decide)
            go_ret
            exact ⟨by rfl, HB.out⟩
          · have h2_1 : decide (x.f2.f1 ≤ x.f2.f0) = false := decide_eq_false h2
            have h2_2 : (x.f2.f1 ≤ x.f2.f0) = False := eq_false h2
            by_cases h3 : 1048577 < x.f2.f1
            · have h3_1 : decide (1048577 < x.f2.f1) = true := decide_eq_true h3
              have h3_2 : (1048577 < x.f2.f1) = True := eq_true h3
              have hcase : flX ix nb x = 32 := by unfold flX; rw [if_neg (by omega), if_neg HE.out, if_pos (by omega)]
              go_wp2_with fail
              obtain rfl := HH.out 32 hcase (by decide)
              go_ret
              exact ⟨by rfl, HB.out⟩
            · have h3_1 : decide (1048577 < x.f2.f1) = false := decide_eq_false h3
              have h3_2 : (1048577 < x.f2.f1) = False := eq_false h3
              have h123 : ¬ (x.f2.f0 < 0 ∨ x.f2.f1 ≤ x.f2.f0 ∨ 1048577 < x.f2.f1) := by omega
              have HF : Aside0 (flX ix nb x = if (bad x.f3 0 1048576 || bad x.f4 0 1000000) = true then 2 else 0) := ⟨by unfold flX; rw [if_neg (by omega), if_neg HE.out, if_neg h123]⟩
              have y4 : wc.cell? ⟨gb, 4, none⟩ = some (.int .i64 x.f3) := (blk_cell HY.out 4).trans rfl
              go_wp2_with fail
              refine (K1.out _).mono ?_
              rintro e v3 ⟨rfl, hb1⟩
              replace HX := Aside0.mk (blk_below HX.out hb1)
              replace HY := Aside0.mk (blk_below HY.out hb1)
              replace HB := Aside0.mk (below_step HB.out hb1)
              clear hb1 y2 y3 y4 K1
              cases b1 with
              | true =>
                go_wp2_with fail
                obtain rfl := HH.out 2 (by rw [HF.out, ← E1.out]; rfl) (by decide)
                go_ret
                exact ⟨by rfl, HB.out⟩
              | false =>
                have y5 : v3.cell? ⟨gb, 5, none⟩ = some (.int .i64 x.f4) := (blk_cell HY.out 5).trans rfl
                go_wp2_with fail
                refine (K2.out _).mono ?_
                rintro e v4 ⟨rfl, hb1⟩
                replace HX := Aside0.mk (blk_below HX.out hb1)
                replace HY := Aside0.mk (blk_below HY.out hb1)
                replace HB := Aside0.mk (below_step HB.out hb1)
                clear hb1 y5 K2
                cases b2 with
                | true =>
                  go_wp2_with fail
                  obtain rfl := HH.out 2 (by rw [HF.out, ← E1.out, ← E2.out]; rfl) (by decide)
                  go_ret
                  exact ⟨by rfl, HB.out⟩
                | false =>
                  have AN1 := Aside0.mk (HZ.out (by rw [HF.out, ← E1.out, ← E2.out]; rfl))
                  go_wp2_with fail
                  go_roundg (c.fl.length - (i + 1))
                  case measure => omega
                  case rel => exact ⟨i + 1, by omega, by omega, by first | rfl | go_num, HX, HB, AN1⟩
  · obtain rfl : i = c.fl.length := by omega
    have hz1 : decide (c.fl.length < c.fl.length) = false := by simp
    have hz2 : decide ((c.fl.length : Int) < (c.fl.length : Int)) = false := by simp
    clear hlt
    obtain rfl := R3.out AN.out
    go_wp2
    go_ret
    exact ⟨rfl, HB.out⟩
end Go.Proofs.Ytdadnapfecmmdaa.P
