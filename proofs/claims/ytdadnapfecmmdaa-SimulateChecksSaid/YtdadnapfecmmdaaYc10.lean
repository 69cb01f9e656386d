/- Own texts of a proof about layer 55's simulate (merged): Km, Va, Vc, Vb, Vd, Ve, PF11, PF18, Ma. -/
import Derived.Test.YtdadnapfecmmdaaYc2
import Derived.Test.YtdadnapfecmmdaaYc3
import Derived.Test.YtdadnapfecmmdaaYc4
import Derived.Test.YtdadnapfecmmdaaYc7
import Derived.Test.YtdadnapfecmmdaaYc8
import Derived.Test.YtdadnapfecmmdaaYc9
namespace Go.Proofs.Ytdadnapfecmmdaa.P
set_option linter.unusedVariables false
set_option linter.unusedSimpArgs false
open Go.RowKit Go.Proofs.YtdadnapfecmmdaaW.PrintWords Go.Proofs.YtdadnapfecmmdaaW.PrintLast Go.Proofs.YtdadnapfecmmdaaW.PrintMore
open Go.Proofs.Ytdadnapfecmmdaa.Hm
def kmT.T19 : Bool × List (List Nat × List Nat) := (true, [([], []), ([], []), ([1], [1]), ([], []), ([2, 3], [2, 3]), ([4], [4]), ([5], [5]), ([], []), ([6, 7], [6, 7]), ([8], [8]), ([0, 9], [0, 9]), ([10, 10, 0, 1, 2, 3, 4, 5, 6, 7, 8, 9, 10], [10])])
def kmT.B19 : List Nat := [0, 0, 2, 0, 14, 30, 62, 0, 254, 510, 1023, 2047]
theorem kmT.tab19 : rtab .any (opsOf Try.f48 19) = kmT.T19 := by kernel_rfl
theorem kmT.bits19 : waitsOk kmT.T19.2 kmT.B19 = true := by kernel_rfl
set_option maxHeartbeats 8000000 in
set_option maxRecDepth 100000 in
theorem mckS_total (c : Cfg) (p : CfgAt) (w : World) (hR : CfgR w p c) : Calls Try.prog 48 #[c.val p] w fun e w' => e = .returned (.int .i64 (ckSv c.sv)) ∧ Below w.heap.size w w' := by
  obtain ⟨A1, c1, A2, c2, A3, c3, A4, c4⟩ := p
  have HR := Aside0.mk hR
  have hn : c.sv.length ≤ 9223372036854775807 := hR.r1.2.1
  have HX0 := Aside0.mk (blk_new w (.cells (c.cells ⟨A1, c1, A2, c2, A3, c3, A4, c4⟩) 31))
  have HB0 := Aside0.mk (below_alloc (Below.refl w.heap.size w) (.cells (c.cells ⟨A1, c1, A2, c2, A3, c3, A4, c4⟩) 31))
  obtain ⟨R1, R2, R3⟩ := first2 (svE c.sv) (callsE c.sv) c.sv.length c.sv.length _ (rfl : ckSv c.sv = _)
  generalize ckSv c.sv = R at R1 R2 R3 ⊢
  replace R1 := Aside0.mk R1
  replace R2 := Aside0.mk R2
  replace R3 := Aside0.mk R3
  clear hR
  go_enter Try.func48, Try.ntmps48
  go_wp2_with fail
  go_loopg [3, 4] c.sv.length (fun gg s3 s4 wr => ∃ i : Nat, i ≤ c.sv.length ∧ c.sv.length - i ≤ gg ∧ s3 = .int .i64 (i : Int) ∧ Aside0 (wr.heap[w.heap.size]? = some (.cells (c.cells ⟨A1, c1, A2, c2, A3, c3, A4, c4⟩) 31 (0, 0))) ∧ Aside0 (Below w.heap.size w wr) ∧ Aside0 (∀ j, j < i → svE c.sv j = 0))
  case atStart => exact ⟨0, Nat.zero_le _, by omega, rfl, HX0, HB0, ⟨fun j hj => absurd hj (Nat.not_lt_zero _)⟩⟩
  case round =>
  clear HX0 HB0
  obtain ⟨i, hi, hgi, rfl, HX, HB, AN⟩ := hrel
  by_cases hlt : i < c.sv.length
  · have hown := svIdx_own c.sv i hlt
    obtain ⟨ad, A5, c5, e, t0, t1, t2, t3, t4, t5, l5, k5⟩ := at_T64 HR.out.r1 (i : Int) (by omega) (by omega)
    dsimp only at e
    subst e
    simp only [Int.toNat_natCast] at t0 t1 t2 t3 t4 t5
    replace t0 := (HB.out.cell (World.block_lt_of_cell? _ _ t0)).trans t0
    replace t1 := (HB.out.cell (World.block_lt_of_cell? _ _ t1)).trans t1
    replace t2 := (HB.out.cell (World.block_lt_of_cell? _ _ t2)).trans t2
    replace t3 := (HB.out.cell (World.block_lt_of_cell? _ _ t3)).trans t3
    replace t4 := (HB.out.cell (World.block_lt_of_cell? _ _ t4)).trans t4
    replace t5 := (HB.out.cell (World.block_lt_of_cell? _ _ t5)).trans t5
    clear k5
    have HH : Aside0 (∀ v, svE c.sv i = v → v ≠ 0 → R = v) := ⟨fun v hv h0 => by rw [← hv]; exact R1.out i hlt AN.out (by rw [hv]; exact h0)⟩
    have HZ : Aside0 (svE c.sv i = 0 → ∀ j, j < i + 1 → svE c.sv j = 0) := ⟨ext0 (svE c.sv) i AN.out⟩
    have HI := Aside0.mk (fun W (p : CfgAt) (h : CfgR W p c) => mindex_calls c p (rd_T64 c.sv i).f0 W h)
    have HNB := Aside0.mk (fun W => nameB_calls (rd_T64 c.sv i).f0 W)
    replace HH : Aside0 (∀ v, svX (nameB (rd_T64 c.sv i).f0) (rd_T64 c.sv i) (svIdx c.sv (rd_T64 c.sv i).f0) i = v → v ≠ 0 → R = v) := HH
    replace HZ : Aside0 (svX (nameB (rd_T64 c.sv i).f0) (rd_T64 c.sv i) (svIdx c.sv (rd_T64 c.sv i).f0) i = 0 → ∀ j, j < i + 1 → svE c.sv j = 0) := HZ
    generalize svIdx c.sv (rd_T64 c.sv i).f0 = ix at hown HH HZ HI
    generalize nameB (rd_T64 c.sv i).f0 = nb at HH HZ HNB
    generalize rd_T64 c.sv i = x at t0 t1 t2 t3 t4 t5 l5 HH HZ HI HNB
    have hz1 : (i : Int) < (c.sv.length : Int) := by omega
    clear AN
    have q1 : wr.cell? ⟨w.heap.size, 1, none⟩ = some (.slice (some ad) c.sv.length c1) := (blk_cell HX.out 1).trans rfl
    have K1 := Aside0.mk (fun W => ranged_calls x.f1 1 1048576 W)
    obtain ⟨b1, hb1_⟩ : ∃ b, b = bad x.f1 1 1048576 := ⟨_, rfl⟩
    rw [← hb1_] at K1
    have E1 := Aside0.mk hb1_
    clear hb1_
    have K2 := Aside0.mk (fun W => ranged_calls x.f2 0 1048576 W)
    obtain ⟨b2, hb2_⟩ : ∃ b, b = bad x.f2 0 1048576 := ⟨_, rfl⟩
    rw [← hb2_] at K2
    have E2 := Aside0.mk hb2_
    clear hb2_
    have K3 := Aside0.mk (fun W => ranged_calls x.f3 0 1048576 W)
    obtain ⟨b3, hb3_⟩ : ∃ b, b = bad x.f3 0 1048576 := ⟨_, rfl⟩
    rw [← hb3_] at K3
    have E3 := Aside0.mk hb3_
    clear hb3_
    have K4 := Aside0.mk (fun W => ranged_calls x.f4 0 1000000 W)
    obtain ⟨b4, hb4_⟩ : ∃ b, b = bad x.f4 0 1000000 := ⟨_, rfl⟩
    rw [← hb4_] at K4
    have E4 := Aside0.mk hb4_
    clear hb4_
    go_upto_region 5 with fail
    clear q1
    replace HX := Aside0.mk (blk_alloc HX.out (.cells #[.string x.f0, .int .i64 x.f1, .int .i64 x.f2, .int .i64 x.f3, .int .i64 x.f4, .slice A5 x.f5.length c5] 64))
    have HY := Aside0.mk (blk_new wr (.cells #[.string x.f0, .int .i64 x.f1, .int .i64 x.f2, .int .i64 x.f3, .int .i64 x.f4, .slice A5 x.f5.length c5] 64))
    replace HB := Aside0.mk (below_alloc HB.out (.cells #[.string x.f0, .int .i64 x.f1, .int .i64 x.f2, .int .i64 x.f3, .int .i64 x.f4, .slice A5 x.f5.length c5] 64))
    clear t0 t1 t2 t3 t4 t5
    generalize hgb : wr.heap.size = gb at HY ⊢
    generalize wr.alloc (.cells #[.string x.f0, .int .i64 x.f1, .int .i64 x.f2, .int .i64 x.f3, .int .i64 x.f4, .slice A5 x.f5.length c5] 64) = v0 at HX HY HB ⊢
    have y0 : v0.cell? ⟨gb, 0, none⟩ = some (.string x.f0) := (blk_cell HY.out 0).trans rfl
    go_wp2_with fail
    refine (HNB.out _).mono ?_
    rintro e v1 ⟨rfl, hb1⟩
    replace HX := Aside0.mk (blk_below HX.out hb1)
    replace HY := Aside0.mk (blk_below HY.out hb1)
    replace HB := Aside0.mk (below_step HB.out hb1)
    clear hb1 y0
    cases nb with
    | false =>
      go_wp2_with fail
      obtain rfl := HH.out 11 (by simp [svX]) (by decide)
      go_ret
      exact ⟨by rfl, HB.out⟩
    | true =>
      obtain ⟨q0, q1, q2, q3, q4, q5, q6, q7, q8, q9, q10, q11⟩ := cfg12 HX.out
      have y0 : v1.cell? ⟨gb, 0, none⟩ = some (.string x.f0) := (blk_cell HY.out 0).trans rfl
      go_wp2_with fail
      refine (HI.out _ ⟨some ad, c1, A2, c2, A3, c3, A4, c4⟩ (HR.out.below HB.out)).mono ?_
      rintro e v2 ⟨rfl, hb1⟩
      replace HX := Aside0.mk (blk_below HX.out hb1)
      replace HY := Aside0.mk (blk_below HY.out hb1)
      replace HB := Aside0.mk (below_step HB.out hb1)
      clear hb1 y0 q0 q1 q2 q3 q4 q5 q6 q7 q8 q9 q10 q11
      by_cases hix : ix < (i : Int)
      · have z2 : decide (ix < (i : Int)) = true := decide_eq_true hix
        have z3 : (ix != (i : Int)) = true := by simp; omega
        go_wp2_with fail
        obtain rfl := HH.out 9 (by simp [svX, hix]) (by decide)
        go_ret
        exact ⟨by rfl, HB.out⟩
      · have z2 : decide (ix < (i : Int)) = false := decide_eq_false hix
        obtain rfl : ix = (i : Int) := by omega
        have z3 : ((i : Int) != (i : Int)) = false := by simp
        have y1 : v2.cell? ⟨gb, 1, none⟩ = some (.int .i64 x.f1) := (blk_cell HY.out 1).trans rfl
        go_wp2_with fail
        refine (K1.out _).mono ?_
        rintro e v3 ⟨rfl, hb1⟩
        replace HX := Aside0.mk (blk_below HX.out hb1)
        replace HY := Aside0.mk (blk_below HY.out hb1)
        replace HB := Aside0.mk (below_step HB.out hb1)
        clear hb1 y1 K1
        cases b1 with
        | true =>
          go_wp2_with fail
          obtain rfl := HH.out 2 (by simp [svX, ← E1.out]) (by decide)
          go_ret
          exact ⟨by rfl, HB.out⟩
        | false =>
          have y2 : v3.cell? ⟨gb, 2, none⟩ = some (.int .i64 x.f2) := (blk_cell HY.out 2).trans rfl
          go_wp2_with fail
          refine (K2.out _).mono ?_
          rintro e v4 ⟨rfl, hb1⟩
          replace HX := Aside0.mk (blk_below HX.out hb1)
          replace HY := Aside0.mk (blk_below HY.out hb1)
          replace HB := Aside0.mk (below_step HB.out hb1)
          clear hb1 y2 K2
          cases b2 with
          | true =>
            go_wp2_with fail
            obtain rfl := HH.out 2 (by simp [svX, ← E1.out, ← E2.out]) (by decide)
            go_ret
            exact ⟨by rfl, HB.out⟩
          | false =>
            have y3 : v4.cell? ⟨gb, 3, none⟩ = some (.int .i64 x.f3) := (blk_cell HY.out 3).trans rfl
            go_wp2_with fail
            refine (K3.out _).mono ?_
            rintro e v5 ⟨rfl, hb1⟩
            replace HX := Aside0.mk (blk_below HX.out hb1)
            replace HY := Aside0.mk (blk_below HY.out hb1)
            replace HB := Aside0.mk (below_step HB.out hb1)
            clear hb1 y3 K3
            cases b3 with
            | true =>
              go_wp2_with fail
              obtain rfl := HH.out 2 (by simp [svX, ← E1.out, ← E2.out, ← E3.out]) (by decide)
              go_ret
              exact ⟨by rfl, HB.out⟩
            | false =>
              have y4 : v5.cell? ⟨gb, 4, none⟩ = some (.int .i64 x.f4) := (blk_cell HY.out 4).trans rfl
              go_wp2_with fail
              refine (K4.out _).mono ?_
              rintro e v6 ⟨rfl, hb1⟩
              replace HX := Aside0.mk (blk_below HX.out hb1)
              replace HY := Aside0.mk (blk_below HY.out hb1)
              replace HB := Aside0.mk (below_step HB.out hb1)
              clear hb1 y4 K4
              cases b4 with
              | true =>
                go_wp2_with fail
                obtain rfl := HH.out 2 (by simp [svX, ← E1.out, ← E2.out, ← E3.out, ← E4.out]) (by decide)
                go_ret
                exact ⟨by rfl, HB.out⟩
              | false =>
                have y5 : v6.cell? ⟨gb, 5, none⟩ = some (.slice A5 x.f5.length c5) := (blk_cell HY.out 5).trans rfl
                by_cases h8 : 8 < x.f5.length
                · have z5 : decide ((8 : Int) < (x.f5.length : Int)) = true := by simp; omega
                  go_wp2_with fail
                  obtain rfl := HH.out 6 (by simp [svX, ← E1.out, ← E2.out, ← E3.out, ← E4.out, h8]) (by decide)
                  go_ret
                  exact ⟨by rfl, HB.out⟩
                · have z5 : decide ((8 : Int) < (x.f5.length : Int)) = false := by simp; omega
                  have AN1 := Aside0.mk (HZ.out (by simp [svX, ← E1.out, ← E2.out, ← E3.out, ← E4.out, h8]))
                  have s1 : IntKind.i64.wrap ((i : Int) + 1) = (i : Int) + 1 := IntWalk.i64_in _ (by omega)
                  go_wp2_with fail
                  go_roundg (c.sv.length - (i + 1))
                  case measure => omega
                  case rel => exact ⟨i + 1, by omega, by omega, by first | rfl | go_num, HX, HB, AN1⟩
  · obtain rfl : i = c.sv.length := by omega
    have hz1 : decide (c.sv.length < c.sv.length) = false := by simp
    have hz2 : decide ((c.sv.length : Int) < (c.sv.length : Int)) = false := by simp
    clear hlt hi hgi
    have q1 : wr.cell? ⟨w.heap.size, 1, none⟩ = some (.slice A1 c.sv.length c1) := (blk_cell HX.out 1).trans rfl
    go_wp2_with fail
    clear q1
    go_loopg [5, 6, 7] c.sv.length (fun gg s5 s6 s7 wr => ∃ i : Nat, i ≤ c.sv.length ∧ c.sv.length - i ≤ gg ∧ s5 = .int .i64 (i : Int) ∧ Aside0 (wr.heap[w.heap.size]? = some (.cells (c.cells ⟨A1, c1, A2, c2, A3, c3, A4, c4⟩) 31 (0, 0))) ∧ Aside0 (Below w.heap.size w wr) ∧ Aside0 (∀ j, j < i → callsE c.sv j = 0))
    case atStart => exact ⟨0, Nat.zero_le _, by omega, rfl, HX, HB, ⟨fun j hj => absurd hj (Nat.not_lt_zero _)⟩⟩
    case round =>
    clear HX HB hz1 hz2
    obtain ⟨i, hi, hgi, rfl, HX, HB, AM⟩ := hrel
    by_cases hlt : i < c.sv.length
    · have HH : Aside0 (∀ v, callsE c.sv i = v → v ≠ 0 → R = v) := ⟨fun v hv h0 => by rw [← hv]; exact R2.out AN.out i hlt AM.out (by rw [hv]; exact h0)⟩
      obtain ⟨ad, A5, c5, e, t0, t1, t2, t3, t4, t5, l5, k5⟩ := at_T64 HR.out.r1 (i : Int) (by omega) (by omega)
      dsimp only at e
      subst e
      simp only [Int.toNat_natCast] at t0 t1 t2 t3 t4 t5
      clear t0 t1 t2 t3 t4
      have HZ : Aside0 (callsE c.sv i = 0 → ∀ j, j < i + 1 → callsE c.sv j = 0) := ⟨ext0 (callsE c.sv) i AM.out⟩
      replace HH : Aside0 (∀ k, k < (rd_T64 c.sv i).f5.length → (∀ j, j < k → callX (svIdx c.sv (rdOf ByteArray.empty (rd_T64 c.sv i).f5 j)) i = 0) → ∀ v, callX (svIdx c.sv (rdOf ByteArray.empty (rd_T64 c.sv i).f5 k)) i = v → v ≠ 0 → R = v) := ⟨fun k hk h v hv h0 => HH.out v ((fstE_hit (callE c.sv i) k h (by show callX _ i ≠ 0; rw [hv]; exact h0) _ hk).trans hv) h0⟩
      replace HZ : Aside0 ((∀ j, j < (rd_T64 c.sv i).f5.length → callX (svIdx c.sv (rdOf ByteArray.empty (rd_T64 c.sv i).f5 j)) i = 0) → ∀ j, j < i + 1 → callsE c.sv j = 0) := ⟨fun h => HZ.out (fstE_zero (callE c.sv i) _ h)⟩
      generalize rd_T64 c.sv i = x at t5 l5 k5 HH HZ
      have hn5 : x.f5.length ≤ 9223372036854775807 := k5.2.1
      have HT5 := Aside0.mk t5
      have HK5 := Aside0.mk k5
      have hlts := World.block_lt_of_cell? _ _ t5
      clear t5 k5
      have hz1 : (i : Int) < (c.sv.length : Int) := by omega
      clear AM
      have q1 : wr.cell? ⟨w.heap.size, 1, none⟩ = some (.slice (some ad) c.sv.length c1) := (blk_cell HX.out 1).trans rfl
      go_wp2_with fail
      clear q1
      go_loopg [6, 7] x.f5.length (fun gg s6 s7 wr => ∃ j : Nat, j ≤ x.f5.length ∧ x.f5.length - j ≤ gg ∧ s6 = .int .i64 (j : Int) ∧ Aside0 (wr.heap[w.heap.size]? = some (.cells (c.cells ⟨(some ad), c1, A2, c2, A3, c3, A4, c4⟩) 31 (0, 0))) ∧ Aside0 (Below w.heap.size w wr) ∧ Aside0 (∀ k, k < j → callX (svIdx c.sv (rdOf ByteArray.empty x.f5 k)) i = 0))
      case atStart => exact ⟨0, Nat.zero_le _, by omega, rfl, HX, HB, ⟨fun j hj => absurd hj (Nat.not_lt_zero _)⟩⟩
      case round =>
      clear HX HB
      obtain ⟨j, hj, hgj, rfl, HX, HB, AK⟩ := hrel
      have q1 : wr.cell? ⟨w.heap.size, 1, none⟩ = some (.slice (some ad) c.sv.length c1) := (blk_cell HX.out 1).trans rfl
      have t5 := (HB.out.cell (World.block_lt_of_cell? _ _ HT5.out)).trans HT5.out
      by_cases hlj : j < x.f5.length
      · obtain ⟨ad5, e5, u0⟩ := Kd.at_string HK5.out (j : Int) (by omega) (by omega)
        subst e5
        simp only [Int.toNat_natCast] at u0
        replace u0 := (HB.out.cell (World.block_lt_of_cell? _ _ u0)).trans u0
        have HG : Aside0 (∀ v, callX (svIdx c.sv (rdOf ByteArray.empty x.f5 j)) i = v → v ≠ 0 → R = v) := ⟨HH.out j hlj AK.out⟩
        have HZ2 := Aside0.mk (ext0 (fun k => callX (svIdx c.sv (rdOf ByteArray.empty x.f5 k)) i) j AK.out)
        replace HZ2 : Aside0 (callX (svIdx c.sv (rdOf ByteArray.empty x.f5 j)) i = 0 → ∀ k, k < j + 1 → callX (svIdx c.sv (rdOf ByteArray.empty x.f5 k)) i = 0) := HZ2
        have HI := Aside0.mk (fun W (p : CfgAt) (h : CfgR W p c) => mindex_calls c p (rdOf ByteArray.empty x.f5 j) W h)
        generalize svIdx c.sv (rdOf ByteArray.empty x.f5 j) = ix at HG HZ2 HI
        generalize rdOf ByteArray.empty x.f5 (j : Int) = nm at u0 HI
        have hz3 : (j : Int) < (x.f5.length : Int) := by omega
        have s1 : IntKind.i64.wrap ((j : Int) + 1) = (j : Int) + 1 := IntWalk.i64_in _ (by omega)
        clear AK
        clear q1
        obtain ⟨q0, q1, q2, q3, q4, q5, q6, q7, q8, q9, q10, q11⟩ := cfg12 HX.out
        go_upto_region 19 with fail
        refine start_ (n := 12) (S := fun w' => Below wr.heap.size wr w') (ds := []) #[false, false, false, false, false, false, false, false, false, false, false, false] (by kernel_rfl) rfl rfl (Below.refl _ _).drew (fun hHeld => ?_)
        refine with_tabW kmT.tab19 kmT.bits19 (fun HT_ HW_ => ?_)
        generalize wr.drew = wd at hHeld ⊢
        refine tk_ 0 (some 78) (bq 12 1) HT_ HW_ rfl rfl hHeld ?_ (by intro w' hS; replace q0 := below_at hS q0; replace q1 := below_at hS q1; replace q2 := below_at hS q2; replace q3 := below_at hS q3; replace q4 := below_at hS q4; replace q5 := below_at hS q5; replace q6 := below_at hS q6; replace q7 := below_at hS q7; replace q8 := below_at hS q8; replace q9 := below_at hS q9; replace q10 := below_at hS q10; replace q11 := below_at hS q11; go_simp; with_reducible rfl)
        refine pu_ 1 (some 79) (bq 12 3) HT_ rfl rfl ?_
        refine tk_ 2 (some 80) (bq 12 7) HT_ HW_ rfl rfl hHeld ?_ (by intro w' hS; replace q1 := below_at hS q1; go_simp; with_reducible rfl)
        refine pu_ 3 (some 81) (bq 12 15) HT_ rfl rfl ?_
        refine pu_ 4 (some 82) (bq 12 31) HT_ rfl rfl ?_
        refine pu_ 5 (some 83) (bq 12 63) HT_ rfl rfl ?_
        refine tk_ 6 (some 84) (bq 12 127) HT_ HW_ rfl rfl hHeld ?_ (by intro w' hS; replace t5 := below_at hS t5; go_simp; with_reducible rfl)
        refine pu_ 7 (some 85) (bq 12 255) HT_ rfl rfl ?_
        refine pu_ 8 (some 86) (bq 12 511) HT_ rfl rfl ?_
        refine tk_ 9 (some 87) (bq 12 1023) HT_ HW_ rfl rfl hHeld ?_ (by intro w' hS; replace u0 := below_at hS u0; go_simp; with_reducible rfl)
        refine one_ (i := 10) (N := some 88) #[true, true, true, true, true, true, true, true, true, true, true, false] rfl rfl (one_of HT_.out (by kernel_rfl)) (by decide) (fun K hK => ?_)
        refine goes_ Try.func17 (by kernel_rfl) rfl #[c.val ⟨(some ad), c1, A2, c2, A3, c3, A4, c4⟩, .string nm] (by rfl) rfl rfl (by (try simp only [List.map_toArray, List.map_cons, List.map_nil]); first | done | rfl) ?_
        with_reducible refine (HI.out _ ⟨(some ad), c1, A2, c2, A3, c3, A4, c4⟩ (HR.out.below (below_step HB.out hHeld))).mono ?_
        rintro e wx ⟨rfl, hb⟩
        refine ⟨_, rfl, ?_⟩
        replace hHeld := below_step hHeld hb
        clear hb
        refine hK.out _ _ hHeld (fun hHeld => ?_)
        clear hK K
        refine norm_ (a' := ?_) ?_ ?_
        rotate_left
        · show Act.put _ (some 88) _ = _
          simp only [Act.put, List.setIfInBounds_toArray, List.set_cons_zero, List.set_cons_succ, i64_w, i32_w]
          rfl
        refine pu_ 11 (some 7) (bq 12 4095) HT_ rfl rfl ?_
        refine done_ (done_of HT_.out (by kernel_rfl)) ?_
        replace HX := Aside0.mk (blk_below HX.out hHeld)
        replace HB := Aside0.mk (below_step HB.out hHeld)
        clear hHeld q0 q1 q2 q3 q4 q5 q6 q7 q8 q9 q10 q11 u0 t5
        by_cases h0 : ix < 0
        · have h0_1 : decide (ix < 0) = true := decide_eq_true h0
          have h0_2 : (ix < 0) = True := eq_true h0
          go_wp2_with fail
          obtain rfl := HG.out 16 (by simp [callX, h0]) (by decide)
          go_ret
          exact ⟨by rfl, HB.out⟩
        · have h0_1 : decide (ix < 0) = false := decide_eq_false h0
          have h0_2 : (ix < 0) = False := eq_false h0
          by_cases h1 : ix ≤ (i : Int)
          · have h1_1 : decide (ix ≤ (i : Int)) = true := decide_eq_true h1
            have h1_2 : (ix ≤ (i : Int)) = True := eq_true h1
            have hcx : callX ix i = 8 := by unfold callX; rw [if_neg (by omega), if_pos (by omega)]
            go_wp2_with fail
            obtain rfl := HG.out 8 hcx (by decide)
            go_ret
            exact ⟨by rfl, HB.out⟩
          · have h1_1 : decide (ix ≤ (i : Int)) = false := decide_eq_false h1
            have h1_2 : (ix ≤ (i : Int)) = False := eq_false h1
            have AK1 := Aside0.mk (HZ2.out (by unfold callX; rw [if_neg (by omega), if_neg (by omega)]))
            go_wp2_with fail
            go_roundg (x.f5.length - (j + 1))
            case measure => omega
            case rel => exact ⟨j + 1, by omega, by omega, by first | rfl | go_num, HX, HB, AK1⟩
      · obtain rfl : j = x.f5.length := by omega
        have hz3 : decide (x.f5.length < x.f5.length) = false := by simp
        have hz4 : decide ((x.f5.length : Int) < (x.f5.length : Int)) = false := by simp
        have AM1 := Aside0.mk (HZ.out AK.out)
        have s1 : IntKind.i64.wrap ((i : Int) + 1) = (i : Int) + 1 := IntWalk.i64_in _ (by omega)
        clear hlj
        go_wp2_with fail
        go_roundg (c.sv.length - (i + 1))
        case measure => omega
        case rel => exact ⟨i + 1, by omega, by omega, by first | rfl | go_num, HX, HB, AM1⟩
    · obtain rfl : i = c.sv.length := by omega
      have q1 : wr.cell? ⟨w.heap.size, 1, none⟩ = some (.slice A1 c.sv.length c1) := (blk_cell HX.out 1).trans rfl
      have hz1 : decide (c.sv.length < c.sv.length) = false := by simp
      have hz2 : decide ((c.sv.length : Int) < (c.sv.length : Int)) = false := by simp
      clear hlt
      obtain rfl := R3.out AN.out AM.out
      go_wp2
      go_ret
      exact ⟨rfl, HB.out⟩
end Go.Proofs.Ytdadnapfecmmdaa.P
namespace Go.Proofs.Ytdadnapfecmmdaa.P
set_option linter.unusedVariables false
open Go.RowKit Go.Proofs.YtdadnapfecmmdaaW.PrintWords Go.Proofs.YtdadnapfecmmdaaW.PrintLast Go.Proofs.YtdadnapfecmmdaaW.PrintMore
theorem w1 (i : Int) (h0 : 0 ≤ i) (h1 : i ≤ 1000000) : wrap64 (i + 1) = i + 1 := by unfold wrap64; omega
end Go.Proofs.Ytdadnapfecmmdaa.P
namespace Go.Proofs.Ytdadnapfecmmdaa.P
set_option linter.unusedVariables false
set_option linter.unusedSimpArgs false
open Go.RowKit Go.Proofs.YtdadnapfecmmdaaW.PrintWords Go.Proofs.YtdadnapfecmmdaaW.PrintLast Go.Proofs.YtdadnapfecmmdaaW.PrintMore
open Go.Proofs.Ytdadnapfecmmdaa.Hm
section
variable (p : Plan)
end
abbrev Act := Int × Int × Int × ByteArray × ByteArray × ByteArray × Bool
end Go.Proofs.Ytdadnapfecmmdaa.P
namespace Go.Proofs.Ytdadnapfecmmdaa.P
open Go.RowKit Go.Proofs.YtdadnapfecmmdaaW.PrintWords Go.Proofs.YtdadnapfecmmdaaW.PrintLast Go.Proofs.YtdadnapfecmmdaaW.PrintMore
attribute [local go_sem] max2_int min2_int max_two min_two max_three min_three max_four min_four   -- for this text's walks alone
set_option linter.unusedVariables false
set_option linter.unusedSimpArgs false
end Go.Proofs.Ytdadnapfecmmdaa.P
namespace Go.Proofs.Ytdadnapfecmmdaa.P
set_option linter.unusedVariables false
set_option linter.unusedSimpArgs false
open Go.RowKit Go.Proofs.YtdadnapfecmmdaaW.PrintWords Go.Proofs.YtdadnapfecmmdaaW.PrintLast Go.Proofs.YtdadnapfecmmdaaW.PrintMore
open Go.Proofs.Ytdadnapfecmmdaa.Hm
section
variable {W W1 W2 W' : World} {gm base : Nat} {c : Cfg} {p : CfgAt} {t : Int} {l : List Sp} {v v1 v2 : Value}
end
end Go.Proofs.Ytdadnapfecmmdaa.P
