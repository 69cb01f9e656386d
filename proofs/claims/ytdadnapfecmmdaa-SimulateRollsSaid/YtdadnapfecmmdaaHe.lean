/- Own walk over deployment.Check: the walk. -/
import Derived.Test.YtdadnapfecmmdaaHd
import Derived.StillTailTactics
namespace Go.Proofs.Ytdadnapfecmmdaa.P
set_option linter.unusedVariables false
set_option linter.unusedSimpArgs false
open Go.RowKit Go.Proofs.YtdadnapfecmmdaaW.PrintWords Go.Proofs.YtdadnapfecmmdaaW.PrintLast Go.Proofs.YtdadnapfecmmdaaW.PrintMore
open Go.Proofs.Ytdadnapfecmmdaa.Hm
theorem zero4 : ∀ w : World, (zeroValue 4).run Try.prog w = .ok (.bool false) w := fun _ => by kernel_rfl
theorem match_bool {α : Type} [DecidableEq α] (m : List (α × Bool)) (x : α) : ((mget m x).elim (Value.bool false) Value.bool) = Value.bool ((mget m x).getD false) := by
  cases mget m x <;> rfl
theorem checkOne_calls (c : S100) (w : World) : Calls Try.prog 77 #[.agg #[.int .i64 c.f0, .int .i64 c.f1, .int .i64 c.f2, .string c.f3, .string c.f4, .string c.f5]] w fun e w' => e = .returned (.int .i64 (chkOne c)) ∧ Below w.heap.size w w' :=
  deployment_checkOne.calls _ _ _ _ _ _ _ _ w (chkOne_some c)
theorem chgCmp_calls (a b : S100) (w : World) : Calls Try.prog 78 #[.agg #[.int .i64 a.f0, .int .i64 a.f1, .int .i64 a.f2, .string a.f3, .string a.f4, .string a.f5], .agg #[.int .i64 b.f0, .int .i64 b.f1, .int .i64 b.f2, .string b.f3, .string b.f4, .string b.f5]] w fun e w' => e = .returned (.int .i64 (chgCmp a b)) ∧ Below w.heap.size w w' :=
  deployment_Compare.calls _ _ _ _ _ _ _ _ _ _ _ _ _ _ w (chgCmp_some a b)
theorem rd_T100_get (xs : List S100) (k : Nat) (h : k < xs.length) : rd_T100 xs (k : Int) = xs[k] := by
  unfold rd_T100; simp [List.getD_eq_getElem?_getD, h]
abbrev chgCells (c : S100) : Array Value := #[.int .i64 c.f0, .int .i64 c.f1, .int .i64 c.f2, .string c.f3, .string c.f4, .string c.f5]

set_option maxHeartbeats 4000000 in
set_option maxRecDepth 100000 in
theorem depCheck_calls (A : Option Addr) (cp : Nat) (l : List S100) (w : World) (hr : Kd.C k100 w A l.length l) :
    Calls Try.prog 50 #[.slice A l.length cp] w fun e w' => e = .returned (.int .i64 (depCheck l)) ∧ Below w.heap.size w w' := by
  have hbig : l.length ≤ 9223372036854775807 := hr.2.1
  have HR := Aside0.mk hr
  clear hr
  have hmm := @run_makeMap Try.prog
  by_cases hlen : (256 : Int) < (l.length : Int)
  · have EO : Aside0 (depCheck l = 6) := ⟨by unfold depCheck; rw [if_pos (by omega)]⟩
    go_enter Try.func50, Try.ntmps50
    go_wp2
    go_ret
    exact ⟨by rw [EO.out]; rfl, Below.refl _ _⟩
  · have EO : Aside0 (depCheck l = depCk l [] 0 l.length) := ⟨by unfold depCheck; rw [if_neg (by omega)]⟩
    go_enter Try.func50, Try.ntmps50
    go_wp2
    go_loopg [13] l.length (fun gg s13 wr => ∃ (i : Nat) (m : List (Int × Bool)), i ≤ l.length ∧ l.length - i ≤ gg ∧ s13 = .int .i64 i ∧ Aside0 (depCk l m i (l.length - i) = depCheck l) ∧ Aside0 (MapIs wr w.heap.size (Value.int .i64) Value.bool m) ∧ Aside0 (Below w.heap.size w wr))
    case atStart => exact ⟨0, [], Nat.zero_le _, by omega, by rfl, ⟨EO.out.symm⟩, ⟨MapIs.made _ _ _⟩, ⟨below_alloc (Below.refl _ _) _⟩⟩
    case round =>
      obtain ⟨i, m, hi, hg, rfl, HA, HM, HB⟩ := hrel
      by_cases hlt : i < l.length
      · have hil : (i : Int) < (l.length : Int) := by omega
        have hA := HA.out
        rw [show l.length - i = (l.length - (i + 1)) + 1 from by omega] at hA
        unfold depCk at hA
        dsimp only at hA
        rw [rd_T100_get l i hlt] at hA
        obtain ⟨ad, e, h0, h1, h2, h3, h4, h5⟩ := at_T100 HR.out (i : Int) (by omega) (by omega)
        subst e
        rw [rd_T100_get l i hlt] at h0 h1 h2 h3 h4 h5
        simp only [Int.toNat_natCast] at h0 h1 h2 h3 h4 h5
        replace h0 := (HB.out.cell (World.block_lt_of_cell? w _ h0)).trans h0
        replace h1 := (HB.out.cell (World.block_lt_of_cell? w _ h1)).trans h1
        replace h2 := (HB.out.cell (World.block_lt_of_cell? w _ h2)).trans h2
        replace h3 := (HB.out.cell (World.block_lt_of_cell? w _ h3)).trans h3
        replace h4 := (HB.out.cell (World.block_lt_of_cell? w _ h4)).trans h4
        replace h5 := (HB.out.cell (World.block_lt_of_cell? w _ h5)).trans h5
        have hck := checkOne_calls l[i]
        have hcp := chgCmp_calls l[i] (rd_T100 l ((i : Int) - 1))
        have HX := Aside0.mk (rfl : l[i] = l[i])
        generalize l[i] = c at h0 h1 h2 h3 h4 h5 hA hck hcp
        clear HX
        have HC := Aside0.mk hck
        have HP := Aside0.mk hcp
        clear hck hcp
        by_cases k1 : chkOne c = 0
        · rw [if_neg (by simpa using k1)] at hA
          have k1b : (chkOne c != 0) = false := by simpa using k1
          clear k1
          go_wp2_with fail
          refine (HC.out _).mono ?_
          rintro e w1 ⟨rfl, hb1⟩
          have hz : wr.heap.size + 1 ≤ w1.heap.size := by have := hb1.size; simpa using this
          have q0 : w1.cell? ⟨wr.heap.size, 0, none⟩ = some (.int .i64 c.f0) := (hb1.cell (p := ⟨wr.heap.size, 0, none⟩) (by simp)).trans (by simp)
          have q1 : w1.cell? ⟨wr.heap.size, 1, none⟩ = some (.int .i64 c.f1) := (hb1.cell (p := ⟨wr.heap.size, 1, none⟩) (by simp)).trans (by simp)
          have q2 : w1.cell? ⟨wr.heap.size, 2, none⟩ = some (.int .i64 c.f2) := (hb1.cell (p := ⟨wr.heap.size, 2, none⟩) (by simp)).trans (by simp)
          have q3 : w1.cell? ⟨wr.heap.size, 3, none⟩ = some (.string c.f3) := (hb1.cell (p := ⟨wr.heap.size, 3, none⟩) (by simp)).trans (by simp)
          have q4 : w1.cell? ⟨wr.heap.size, 4, none⟩ = some (.string c.f4) := (hb1.cell (p := ⟨wr.heap.size, 4, none⟩) (by simp)).trans (by simp)
          have q5 : w1.cell? ⟨wr.heap.size, 5, none⟩ = some (.string c.f5) := (hb1.cell (p := ⟨wr.heap.size, 5, none⟩) (by simp)).trans (by simp)
          have HB1 := Aside0.mk (below_step (below_alloc HB.out _) hb1)
          have HM1 := Aside0.mk ((HM.out.alloc _).below hb1)
          clear HB HM h0 h1 h2 h3 h4 h5
          by_cases hi0 : 0 < i
          · obtain ⟨ad', e', p0, p1, p2, p3, p4, p5⟩ := at_T100 HR.out ((i : Int) - 1) (by omega) (by omega)
            cases e'
            generalize rd_T100 l ((i : Int) - 1) = cq at p0 p1 p2 p3 p4 p5 hA HP
            rw [show ((i : Int) - 1).toNat = i - 1 from by omega] at p0 p1 p2 p3 p4 p5
            replace p0 := (HB1.out.cell (World.block_lt_of_cell? w _ p0)).trans p0
            replace p1 := (HB1.out.cell (World.block_lt_of_cell? w _ p1)).trans p1
            replace p2 := (HB1.out.cell (World.block_lt_of_cell? w _ p2)).trans p2
            replace p3 := (HB1.out.cell (World.block_lt_of_cell? w _ p3)).trans p3
            replace p4 := (HB1.out.cell (World.block_lt_of_cell? w _ p4)).trans p4
            replace p5 := (HB1.out.cell (World.block_lt_of_cell? w _ p5)).trans p5
            have g0 : decide ((0 : Int) < (i : Int)) = true := by simpa using hi0
            go_wp2_with fail
            refine wp_region_still_tail 9 (by kernel_rfl) (by kernel_rfl) ?_
            rw [show ({ heap := w1.heap, tape := w1.tape, drawn := w1.drawn + 1, os := w1.os, output := w1.output } : World) = w1.drew from rfl]
            have hd : Below w1.heap.size w1 w1.drew := (Below.refl _ _).drew
            have hz2 : wr.heap.size + 1 ≤ w1.drew.heap.size := hz
            replace p0 := (hd.cell (World.block_lt_of_cell? w1 _ p0)).trans p0
            replace p1 := (hd.cell (World.block_lt_of_cell? w1 _ p1)).trans p1
            replace p2 := (hd.cell (World.block_lt_of_cell? w1 _ p2)).trans p2
            replace p3 := (hd.cell (World.block_lt_of_cell? w1 _ p3)).trans p3
            replace p4 := (hd.cell (World.block_lt_of_cell? w1 _ p4)).trans p4
            replace p5 := (hd.cell (World.block_lt_of_cell? w1 _ p5)).trans p5
            replace q0 := (hd.cell (World.block_lt_of_cell? w1 _ q0)).trans q0
            replace q1 := (hd.cell (World.block_lt_of_cell? w1 _ q1)).trans q1
            replace q2 := (hd.cell (World.block_lt_of_cell? w1 _ q2)).trans q2
            replace q3 := (hd.cell (World.block_lt_of_cell? w1 _ q3)).trans q3
            replace q4 := (hd.cell (World.block_lt_of_cell? w1 _ q4)).trans q4
            replace q5 := (hd.cell (World.block_lt_of_cell? w1 _ q5)).trans q5
            have HB2 := Aside0.mk (below_step HB1.out hd)
            have HM2 := Aside0.mk (HM1.out.below hd)
            clear HB1 HM1 hd hz hb1
            generalize w1.drew = W2 at *
            clear w1
            simp only [List.take_succ_cons, List.take_zero, List.drop_succ_cons, List.drop_zero]
            have s1 : IntKind.i64.wrap ((i : Int) - 1) = (i : Int) - 1 := IntWalk.i64_in _ (by omega)
            have s2 : (0 : Int) ≤ (i : Int) - 1 := by omega
            have s5 : (1 : Int) ≤ (i : Int) := by omega
            have s3 : ((i : Int) - 1).toNat = i - 1 := by omega
            have s4 : (i : Int) - 1 < (l.length : Int) := by omega
            repeat still_step
            refine wpStill_nil ?_
            clear s1 s2 s3 s4 s5
            by_cases k3 : chgCmp c cq < 0
            · rw [if_pos ⟨hi0, k3⟩] at hA
              have hA' := Aside0.mk hA
              clear hA
              go_wp2_with (go_at_call 78; refine (HP.out _).mono ?_; rintro e w2 ⟨rfl, hb2⟩)
              go_ret
              exact ⟨by rw [hA'.out]; rfl, below_step HB2.out hb2⟩
            · rw [if_neg (fun h => k3 h.2)] at hA
              by_cases k2 : (mget m c.f0).getD false = true
              · rw [if_pos k2] at hA
                have hA' := Aside0.mk hA
                clear hA
                go_wp2_with fail
                refine (HP.out _).mono ?_
                rintro e w2 ⟨rfl, hb2⟩
                have HB3 := Aside0.mk (below_step HB2.out hb2)
                have HM3 := Aside0.mk (HM2.out.below hb2)
                replace q0 := (hb2.cell (World.block_lt_of_cell? W2 _ q0)).trans q0
                go_wp2_with (first | (at_lookup; refine wp_look rfl _ _ rfl Try.underlying148 Try.underlying3 (enc_int .i64) HM3.out rfl _ rfl (zero4 _) ?_; rw [match_bool]))
                go_ret
                exact ⟨by rw [hA'.out]; rfl, HB3.out⟩
              · rw [if_neg k2] at hA
                have hA' := Aside0.mk hA
                clear hA
                replace k2 : (mget m c.f0).getD false = false := by simpa using k2
                go_wp2_with fail
                refine (HP.out _).mono ?_
                rintro e w2 ⟨rfl, hb2⟩
                have HB3 := Aside0.mk (below_step HB2.out hb2)
                have HM3 := Aside0.mk (HM2.out.below hb2)
                replace q0 := (hb2.cell (World.block_lt_of_cell? W2 _ q0)).trans q0
                go_wp2_with (first | (at_lookup; refine wp_look rfl _ _ rfl Try.underlying148 Try.underlying3 (enc_int .i64) HM3.out rfl _ rfl (zero4 _) ?_; rw [match_bool]) | (at_mapUpdate; refine wp_store rfl _ _ _ rfl Try.underlying148 Try.underlying3 (enc_int .i64) HM3.out rfl _ true rfl rfl ?_; intro w3 hm3 hg3))
                go_roundg (l.length - (i + 1))
                case measure => omega
                case rel => exact ⟨i + 1, mput m c.f0 true, by omega, Nat.le_refl _, by go_num, ⟨hA'.out⟩, ⟨hm3⟩, ⟨HB3.out.grown hg3 HB3.out.size (fun z hz => by simp at hz; omega)⟩⟩
          · rw [if_neg (fun h => hi0 h.1)] at hA
            have g0 : decide ((0 : Int) < (i : Int)) = false := by simpa using hi0
            by_cases k2 : (mget m c.f0).getD false = true
            · rw [if_pos k2] at hA
              have hA' := Aside0.mk hA
              clear hA
              go_wp2_with fail
              go_quiet (fail)
              go_wp2_with (first | (at_lookup; refine wp_look rfl _ _ rfl Try.underlying148 Try.underlying3 (enc_int .i64) HM1.out rfl _ rfl (zero4 _) ?_; rw [match_bool]))
              go_ret
              exact ⟨by rw [hA'.out]; rfl, pw_below_drewN HB1.out _⟩
            · rw [if_neg k2] at hA
              have hA' := Aside0.mk hA
              clear hA
              replace k2 : (mget m c.f0).getD false = false := by simpa using k2
              go_wp2_with fail
              go_quiet (fail)
              go_wp2_with (first | (at_lookup; refine wp_look rfl _ _ rfl Try.underlying148 Try.underlying3 (enc_int .i64) HM1.out rfl _ rfl (zero4 _) ?_; rw [match_bool]) | (at_mapUpdate; refine wp_store rfl _ _ _ rfl Try.underlying148 Try.underlying3 (enc_int .i64) HM1.out rfl _ true rfl rfl ?_; intro w3 hm3 hg3))
              go_roundg (l.length - (i + 1))
              case measure => omega
              case rel => exact ⟨i + 1, mput m c.f0 true, by omega, Nat.le_refl _, by go_num, ⟨hA'.out⟩, ⟨hm3⟩, ⟨(pw_below_drewN HB1.out _).grown hg3 (pw_below_drewN HB1.out _).size (fun z hz => by simp at hz; omega)⟩⟩
        · rw [if_pos k1] at hA
          have hA' := Aside0.mk hA
          have k1b : (chkOne c != 0) = true := by simpa using k1
          clear hA k1
          go_wp2_with (go_at_call 77; refine (HC.out _).mono ?_; rintro e w1 ⟨rfl, hb1⟩)
          go_ret
          exact ⟨by rw [hA'.out]; rfl, below_step (below_alloc HB.out _) hb1⟩
      · obtain rfl : i = l.length := by omega
        have hA : Aside0 (depCheck l = 0) := ⟨by have := HA.out; rw [Nat.sub_self] at this; rw [← this]; rfl⟩
        go_wp2
        go_ret
        exact ⟨by rw [hA.out]; rfl, HB.out⟩
end Go.Proofs.Ytdadnapfecmmdaa.P
