/- Own texts of a proof about layer 55's simulate (merged): Kr. -/
import Derived.Test.YtdadnapfecmmdaaYc17
namespace Go.Proofs.Ytdadnapfecmmdaa.P
set_option linter.unusedVariables false
set_option linter.unusedSimpArgs false
open Go.RowKit Go.Proofs.YtdadnapfecmmdaaW.PrintWords Go.Proofs.YtdadnapfecmmdaaW.PrintLast Go.Proofs.YtdadnapfecmmdaaW.PrintMore
open Go.Proofs.Ytdadnapfecmmdaa.Hm
set_option maxHeartbeats 8000000 in
set_option maxRecDepth 100000 in
theorem ckR_total (c : Cfg) (p : CfgAt) (w : World) (hR : CfgR w p c) (hne : 1 ≤ c.sv.length) : Calls Try.prog 57 #[c.val p] w fun e w' => e = .returned (.int .i64 (ckRst c)) ∧ Below w.heap.size w w' := by
  obtain ⟨A1, c1, A2, c2, A3, c3, A4, c4⟩ := p
  have HR := Aside0.mk hR
  have HX := Aside0.mk (blk_new w (.cells (c.cells ⟨A1, c1, A2, c2, A3, c3, A4, c4⟩) 31))
  have HB := Aside0.mk (below_alloc (Below.refl w.heap.size w) (.cells (c.cells ⟨A1, c1, A2, c2, A3, c3, A4, c4⟩) 31))
  have HRR : Aside0 (∀ v, ckRst c = v → ckRst c = v) := ⟨fun _ h => h⟩
  obtain ⟨R, hRR⟩ : ∃ R, R = ckRst c := ⟨_, rfl⟩
  rw [← hRR]
  replace HRR : Aside0 (∀ v, ckRst c = v → R = v) := ⟨fun v h => hRR.trans h⟩
  clear hR hRR
  go_enter Try.func57, Try.ntmps57
  go_upto_region 1 with fail
  generalize w.alloc (.cells (c.cells ⟨A1, c1, A2, c2, A3, c3, A4, c4⟩) 31) = v0 at HX HB ⊢
  have q5 : v0.cell? ⟨w.heap.size, 5, none⟩ = some (.int .i64 c.sfrom) := (blk_cell HX.out 5).trans rfl
  have q6 : v0.cell? ⟨w.heap.size, 6, none⟩ = some (.int .i64 c.sto) := (blk_cell HX.out 6).trans rfl
  by_cases h1 : c.sfrom < 0
  · have h1_1 : decide (c.sfrom < 0) = true := decide_eq_true h1
    have h1_2 : (c.sfrom < 0) = True := eq_true h1
    have hcase : ckRst c = 32 := by unfold ckRst; rw [if_pos (by omega)]
    go_wp2_with fail
    obtain rfl := HRR.out 32 hcase
    go_ret
    exact ⟨by rfl, HB.out⟩
  · have h1_1 : decide (c.sfrom < 0) = false := decide_eq_false h1
    have h1_2 : (c.sfrom < 0) = False := eq_false h1
    by_cases h2 : c.sto < c.sfrom
    · have h2_1 : decide (c.sto < c.sfrom) = true := decide_eq_true h2
      have h2_2 : (c.sto < c.sfrom) = True := eq_true h2
      have hcase : ckRst c = 32 := by unfold ckRst; rw [if_pos (by omega)]
      go_wp2_with fail
      obtain rfl := HRR.out 32 hcase
      go_ret
      exact ⟨by rfl, HB.out⟩
    · have h2_1 : decide (c.sto < c.sfrom) = false := decide_eq_false h2
      have h2_2 : (c.sto < c.sfrom) = False := eq_false h2
      by_cases h3 : 1048576 < c.sto
      · have h3_1 : decide (1048576 < c.sto) = true := decide_eq_true h3
        have h3_2 : (1048576 < c.sto) = True := eq_true h3
        have hcase : ckRst c = 32 := by unfold ckRst; rw [if_pos (by omega)]
        go_wp2_with fail
        obtain rfl := HRR.out 32 hcase
        go_ret
        exact ⟨by rfl, HB.out⟩
      · have h3_1 : decide (1048576 < c.sto) = false := decide_eq_false h3
        have h3_2 : (1048576 < c.sto) = False := eq_false h3
        have a4 : IntKind.i64.wrap (c.sto - c.sfrom) = c.sto - c.sfrom := IntWalk.i64_in _ (by omega)
        have HRG : Aside0 (0 ≤ c.sfrom ∧ c.sfrom ≤ c.sto ∧ c.sto ≤ 1048576) := ⟨by omega⟩
        by_cases h4 : 64 < c.sto - c.sfrom
        · have h4_1 : decide (64 < c.sto - c.sfrom) = true := decide_eq_true h4
          have h4_2 : (64 < c.sto - c.sfrom) = True := eq_true h4
          have hcase : ckRst c = 6 := by unfold ckRst; rw [if_neg (by omega), if_pos (by omega)]
          go_wp2_with fail
          obtain rfl := HRR.out 6 hcase
          go_ret
          exact ⟨by rfl, HB.out⟩
        · have h4_1 : decide (64 < c.sto - c.sfrom) = false := decide_eq_false h4
          have h4_2 : (64 < c.sto - c.sfrom) = False := eq_false h4
          have HCK : Aside0 (ckRst c = if (bad c.per 0 16 || bad c.delay 0 1048576 || bad c.chunk 1 64 || bad c.loss 0 1000000 || bad c.rep 0 1000000) = true then 2 else if 256 < cntOf c.sv then 6 else 0) := ⟨by unfold ckRst; rw [if_neg (by omega), if_neg (by omega)]⟩
          have K1 := Aside0.mk (fun W => bad_calls c.per 0 16 W)
          obtain ⟨b1, hb1_⟩ : ∃ b, b = bad c.per 0 16 := ⟨_, rfl⟩
          rw [← hb1_] at K1
          have E1 := Aside0.mk hb1_
          clear hb1_
          have K2 := Aside0.mk (fun W => bad_calls c.delay 0 1048576 W)
          obtain ⟨b2, hb2_⟩ : ∃ b, b = bad c.delay 0 1048576 := ⟨_, rfl⟩
          rw [← hb2_] at K2
          have E2 := Aside0.mk hb2_
          clear hb2_
          have K3 := Aside0.mk (fun W => bad_calls c.chunk 1 64 W)
          obtain ⟨b3, hb3_⟩ : ∃ b, b = bad c.chunk 1 64 := ⟨_, rfl⟩
          rw [← hb3_] at K3
          have E3 := Aside0.mk hb3_
          clear hb3_
          have K4 := Aside0.mk (fun W => bad_calls c.loss 0 1000000 W)
          obtain ⟨b4, hb4_⟩ : ∃ b, b = bad c.loss 0 1000000 := ⟨_, rfl⟩
          rw [← hb4_] at K4
          have E4 := Aside0.mk hb4_
          clear hb4_
          have K5 := Aside0.mk (fun W => bad_calls c.rep 0 1000000 W)
          obtain ⟨b5, hb5_⟩ : ∃ b, b = bad c.rep 0 1000000 := ⟨_, rfl⟩
          rw [← hb5_] at K5
          have E5 := Aside0.mk hb5_
          clear hb5_
          have q7 : v0.cell? ⟨w.heap.size, 7, none⟩ = some (.int .i64 c.per) := (blk_cell HX.out 7).trans rfl
          go_wp2_with fail
          refine (K1.out _).mono ?_
          rintro e v1 ⟨rfl, hb1⟩
          replace HX := Aside0.mk (blk_below HX.out hb1)
          replace HB := Aside0.mk (below_step HB.out hb1)
          clear hb1 q7 K1 q5 q6
          cases b1 with
          | true =>
            go_wp2_with fail
            obtain rfl := HRR.out 2 (by rw [HCK.out, if_pos (by simp [← E1.out])])
            go_ret
            exact ⟨by rfl, HB.out⟩
          | false =>
            have q8 : v1.cell? ⟨w.heap.size, 8, none⟩ = some (.int .i64 c.delay) := (blk_cell HX.out 8).trans rfl
            go_wp2_with fail
            refine (K2.out _).mono ?_
            rintro e v2 ⟨rfl, hb1⟩
            replace HX := Aside0.mk (blk_below HX.out hb1)
            replace HB := Aside0.mk (below_step HB.out hb1)
            clear hb1 q8 K2
            cases b2 with
            | true =>
              go_wp2_with fail
              obtain rfl := HRR.out 2 (by rw [HCK.out, if_pos (by simp [← E1.out, ← E2.out])])
              go_ret
              exact ⟨by rfl, HB.out⟩
            | false =>
              have q9 : v2.cell? ⟨w.heap.size, 9, none⟩ = some (.int .i64 c.chunk) := (blk_cell HX.out 9).trans rfl
              go_wp2_with fail
              refine (K3.out _).mono ?_
              rintro e v3 ⟨rfl, hb1⟩
              replace HX := Aside0.mk (blk_below HX.out hb1)
              replace HB := Aside0.mk (below_step HB.out hb1)
              clear hb1 q9 K3
              cases b3 with
              | true =>
                go_wp2_with fail
                obtain rfl := HRR.out 2 (by rw [HCK.out, if_pos (by simp [← E1.out, ← E2.out, ← E3.out])])
                go_ret
                exact ⟨by rfl, HB.out⟩
              | false =>
                have q10 : v3.cell? ⟨w.heap.size, 10, none⟩ = some (.int .i64 c.loss) := (blk_cell HX.out 10).trans rfl
                go_wp2_with fail
                refine (K4.out _).mono ?_
                rintro e v4 ⟨rfl, hb1⟩
                replace HX := Aside0.mk (blk_below HX.out hb1)
                replace HB := Aside0.mk (below_step HB.out hb1)
                clear hb1 q10 K4
                cases b4 with
                | true =>
                  go_wp2_with fail
                  obtain rfl := HRR.out 2 (by rw [HCK.out, if_pos (by simp [← E1.out, ← E2.out, ← E3.out, ← E4.out])])
                  go_ret
                  exact ⟨by rfl, HB.out⟩
                | false =>
                  have q11 : v4.cell? ⟨w.heap.size, 11, none⟩ = some (.int .i64 c.rep) := (blk_cell HX.out 11).trans rfl
                  go_wp2_with fail
                  refine (K5.out _).mono ?_
                  rintro e v5 ⟨rfl, hb1⟩
                  replace HX := Aside0.mk (blk_below HX.out hb1)
                  replace HB := Aside0.mk (below_step HB.out hb1)
                  clear hb1 q11 K5
                  cases b5 with
                  | true =>
                    go_wp2_with fail
                    obtain rfl := HRR.out 2 (by rw [HCK.out, if_pos (by simp [← E1.out, ← E2.out, ← E3.out, ← E4.out, ← E5.out])])
                    go_ret
                    exact ⟨by rfl, HB.out⟩
                  | false =>
                    replace HCK : Aside0 (ckRst c = if 256 < cntOf c.sv then 6 else 0) := ⟨by rw [HCK.out, if_neg (by simp [← E1.out, ← E2.out, ← E3.out, ← E4.out, ← E5.out])]⟩
                    obtain ⟨q0, q1, q2, q3, q4, q5, q6, q7, q8, q9, q10, q11⟩ := cfg12 HX.out
                    go_wp2_with fail
                    refine (count_calls c ⟨A1, c1, A2, c2, A3, c3, A4, c4⟩ _ (HR.out.below HB.out) hne).mono ?_
                    rintro e v9 ⟨rfl, hb1⟩
                    replace HB := Aside0.mk (below_step HB.out hb1)
                    generalize cntOf c.sv = cn at HCK ⊢
                    clear hb1 q0 q1 q2 q3 q4 q5 q6 q7 q8 q9 q10 q11
                    by_cases hcn : 256 < cn
                    · have hcn_1 : decide (256 < cn) = true := decide_eq_true hcn
                      have hcn_2 : (256 < cn) = True := eq_true hcn
                      have hcase : ckRst c = 6 := by rw [HCK.out, if_pos (by omega)]
                      go_wp2_with fail
                      obtain rfl := HRR.out 6 hcase
                      go_ret
                      exact ⟨by rfl, HB.out⟩
                    · have hcn_1 : decide (256 < cn) = false := decide_eq_false hcn
                      have hcn_2 : (256 < cn) = False := eq_false hcn
                      have hcase : ckRst c = 0 := by rw [HCK.out, if_neg (by omega)]
                      go_wp2_with fail
                      obtain rfl := HRR.out 0 hcase
                      go_ret
                      exact ⟨by rfl, HB.out⟩
def ckAtT (c : Cfg) : Nat → Int
  | 0 => ckSv c.sv
  | 1 => ckOff c.off c.sv
  | 2 => depCheck c.ch
  | 3 => ckFl c.sv c.fl
  | _ => ckRst c
theorem ckT_from (c : Cfg) (h1 : ¬ (c.seed < 0 ∨ 1048576 < c.seed)) (h2 : ¬ c.sv.length = 0) (h3 : ¬ (16 < c.sv.length ∨ 16 < c.fl.length)) : ckT c = fstE (ckAtT c) 5 := by
  unfold ckT
  rw [if_neg h1, if_neg h2, if_neg h3]
  simp only [fstE, ckAtT]
  by_cases a0 : ckSv c.sv = 0 <;> by_cases a1 : ckOff c.off c.sv = 0 <;> by_cases a2 : depCheck c.ch = 0 <;> by_cases a3 : ckFl c.sv c.fl = 0 <;> simp [a0, a1, a2, a3]
set_option maxHeartbeats 8000000 in
set_option maxRecDepth 100000 in
theorem check_total (c : Cfg) (p : CfgAt) (w : World) (hR : CfgR w p c) : Calls Try.prog 27 #[c.val p] w fun e w' => e = .returned (.int .i64 (ckT c)) ∧ Below w.heap.size w w' := by
  have HR := Aside0.mk hR
  clear hR
  by_cases h1 : c.seed < 0 ∨ 1048576 < c.seed
  · have k1 : decide (c.seed < 0 ∨ 1048576 < c.seed) = true := by simpa using h1
    have hT : ckT c = 2 := by unfold ckT; rw [if_pos h1]
    rw [hT]
    go_enter Try.func27, Try.ntmps27
    go_wp2_with (go_at_call 52; refine (outside_calls _ _ _ _).mono ?_; rintro e w1 ⟨rfl, ⟨nd, rfl⟩⟩)
    go_ret
    exact ⟨rfl, pw_below_drewN (below_alloc (Below.refl _ _) _) _⟩
  · have k1 : decide (c.seed < 0 ∨ 1048576 < c.seed) = false := by simpa using h1
    by_cases h2 : c.sv.length = 0
    · have k2 : ((c.sv.length : Int) == 0) = true := by simpa using h2
      have hT : ckT c = 7 := by unfold ckT; rw [if_neg h1, if_pos h2]
      rw [hT]
      go_enter Try.func27, Try.ntmps27
      go_wp2_with (go_at_call 52; refine (outside_calls _ _ _ _).mono ?_; rintro e w1 ⟨rfl, ⟨nd, rfl⟩⟩)
      go_ret
      exact ⟨rfl, pw_below_drewN (below_alloc (Below.refl _ _) _) _⟩
    · have k2 : ((c.sv.length : Int) == 0) = false := by simpa using h2
      by_cases h3 : 16 < c.sv.length
      · have k3 : decide ((16 : Int) < (c.sv.length : Int)) = true := by simp; omega
        have hT : ckT c = 6 := by unfold ckT; rw [if_neg h1, if_neg h2, if_pos (.inl h3)]
        rw [hT]
        go_enter Try.func27, Try.ntmps27
        go_wp2_with (go_at_call 52; refine (outside_calls _ _ _ _).mono ?_; rintro e w1 ⟨rfl, ⟨nd, rfl⟩⟩)
        go_ret
        exact ⟨rfl, pw_below_drewN (below_alloc (Below.refl _ _) _) _⟩
      · have k3 : decide ((16 : Int) < (c.sv.length : Int)) = false := by simp; omega
        by_cases h4 : 16 < c.fl.length
        · have k4 : decide ((16 : Int) < (c.fl.length : Int)) = true := by simp; omega
          have hT : ckT c = 6 := by unfold ckT; rw [if_neg h1, if_neg h2, if_pos (.inr h4)]
          rw [hT]
          go_enter Try.func27, Try.ntmps27
          go_wp2_with (go_at_call 52; refine (outside_calls _ _ _ _).mono ?_; rintro e w1 ⟨rfl, ⟨nd, rfl⟩⟩)
          go_ret
          exact ⟨rfl, pw_below_drewN (below_alloc (Below.refl _ _) _) _⟩
        · have k4 : decide ((16 : Int) < (c.fl.length : Int)) = false := by simp; omega
          have hT := ckT_from c h1 h2 (by omega)
          have hne : 1 ≤ c.sv.length := by omega
          have R1 := Aside0.mk (fun i (hi : i < 5) h he => fstE_hit (ckAtT c) i h he 5 hi)
          have R3 := Aside0.mk (fun h => fstE_zero (ckAtT c) 5 h)
          rw [hT]
          generalize fstE (ckAtT c) 5 = R at R1 R3 ⊢
          clear h1 h2 h3 h4 hT
          go_enter Try.func27, Try.ntmps27
          go_wp2_with (go_at_call 52; refine (outside_calls _ _ _ _).mono ?_; rintro e w1 ⟨rfl, ⟨nd, rfl⟩⟩)
          have x0 : ∀ (a b c d e : Value) (W : World), (Instr.index 119 (.agg #[a, b, c, d, e]) (.int .i64 0)).run Try.prog W = .ok a W := fun _ _ _ _ _ _ => by kernel_rfl
          have x1 : ∀ (a b c d e : Value) (W : World), (Instr.index 119 (.agg #[a, b, c, d, e]) (.int .i64 1)).run Try.prog W = .ok b W := fun _ _ _ _ _ _ => by kernel_rfl
          have x2 : ∀ (a b c d e : Value) (W : World), (Instr.index 119 (.agg #[a, b, c, d, e]) (.int .i64 2)).run Try.prog W = .ok c W := fun _ _ _ _ _ _ => by kernel_rfl
          have x3 : ∀ (a b c d e : Value) (W : World), (Instr.index 119 (.agg #[a, b, c, d, e]) (.int .i64 3)).run Try.prog W = .ok d W := fun _ _ _ _ _ _ => by kernel_rfl
          have x4 : ∀ (a b c d e : Value) (W : World), (Instr.index 119 (.agg #[a, b, c, d, e]) (.int .i64 4)).run Try.prog W = .ok e W := fun _ _ _ _ _ _ => by kernel_rfl
          go_loopg [38] 5 (fun gg s38 wr => ∃ (i : Nat), i ≤ 5 ∧ 5 - i ≤ gg ∧ s38 = .int .i64 i ∧ Aside0 (∀ j, j < i → ckAtT c j = 0) ∧ Aside0 (wr.heap[w.heap.size]? = some (.cells (c.cells p) 31 (0, 0))) ∧ Aside0 (Below w.heap.size w wr))
          case atStart =>
            refine ⟨0, by omega, by omega, by rfl, ⟨fun j hj => absurd hj (Nat.not_lt_zero _)⟩, ⟨?_⟩, ⟨?_⟩⟩
            · repeat (first | (with_reducible exact blk_new w _) | (with_reducible refine blk_drewN ?_ _) | (with_reducible refine blk_drew ?_) | (with_reducible refine blk_alloc ?_ _))
            · repeat (first | exact Below.refl _ _ | apply below_alloc | apply pw_below_drewN)
          case round =>
            obtain ⟨i, hi, hgi, rfl, AN, BK, HB⟩ := hrel
            by_cases hlt : i < 5
            · match i, hlt with
              | 0, _ =>
                have HH : Aside0 (ckSv c.sv ≠ 0 → R = ckSv c.sv) := ⟨R1.out 0 (by omega) AN.out⟩
                have HZ : Aside0 (ckSv c.sv = 0 → ∀ j, j < 0 + 1 → ckAtT c j = 0) := ⟨ext0 (ckAtT c) 0 AN.out⟩
                have HC := Aside0.mk (ckS_total c p wr (HR.out.below HB.out))
                generalize ckSv c.sv = ev at HH HZ HC
                go_wp2_with fail
                refine HC.out.mono ?_
                rintro e w1 ⟨rfl, hb1⟩
                by_cases he : ev = 0
                · have heb : (ev != 0) = false := by simpa using he
                  have AN1 := Aside0.mk (HZ.out he)
                  clear he
                  go_wp2_with fail
                  go_roundg (5 - (0 + 1))
                  case measure => omega
                  case rel => exact ⟨0 + 1, by omega, by omega, by rfl, AN1, ⟨blk_below BK.out hb1⟩, ⟨below_step HB.out hb1⟩⟩
                · have heb : (ev != 0) = true := by simpa using he
                  obtain rfl := HH.out he
                  clear he
                  go_wp2_with fail
                  go_ret
                  exact ⟨by rfl, below_step HB.out hb1⟩
              | 1, _ =>
                have HH : Aside0 (ckOff c.off c.sv ≠ 0 → R = ckOff c.off c.sv) := ⟨R1.out 1 (by omega) AN.out⟩
                have HZ : Aside0 (ckOff c.off c.sv = 0 → ∀ j, j < 1 + 1 → ckAtT c j = 0) := ⟨ext0 (ckAtT c) 1 AN.out⟩
                have HC := Aside0.mk (ckO_total c p wr (HR.out.below HB.out))
                generalize ckOff c.off c.sv = ev at HH HZ HC
                go_wp2_with fail
                refine HC.out.mono ?_
                rintro e w1 ⟨rfl, hb1⟩
                by_cases he : ev = 0
                · have heb : (ev != 0) = false := by simpa using he
                  have AN1 := Aside0.mk (HZ.out he)
                  clear he
                  go_wp2_with fail
                  go_roundg (5 - (1 + 1))
                  case measure => omega
                  case rel => exact ⟨1 + 1, by omega, by omega, by rfl, AN1, ⟨blk_below BK.out hb1⟩, ⟨below_step HB.out hb1⟩⟩
                · have heb : (ev != 0) = true := by simpa using he
                  obtain rfl := HH.out he
                  clear he
                  go_wp2_with fail
                  go_ret
                  exact ⟨by rfl, below_step HB.out hb1⟩
              | 2, _ =>
                have HH : Aside0 (depCheck c.ch ≠ 0 → R = depCheck c.ch) := ⟨R1.out 2 (by omega) AN.out⟩
                have HZ : Aside0 (depCheck c.ch = 0 → ∀ j, j < 2 + 1 → ckAtT c j = 0) := ⟨ext0 (ckAtT c) 2 AN.out⟩
                have HC := Aside0.mk (ckD_calls c p w.heap.size wr (HR.out.below HB.out) BK.out)
                generalize depCheck c.ch = ev at HH HZ HC
                go_wp2_with fail
                refine HC.out.mono ?_
                rintro e w1 ⟨rfl, hb1⟩
                by_cases he : ev = 0
                · have heb : (ev != 0) = false := by simpa using he
                  have AN1 := Aside0.mk (HZ.out he)
                  clear he
                  go_wp2_with fail
                  go_roundg (5 - (2 + 1))
                  case measure => omega
                  case rel => exact ⟨2 + 1, by omega, by omega, by rfl, AN1, ⟨blk_below BK.out hb1⟩, ⟨below_step HB.out hb1⟩⟩
                · have heb : (ev != 0) = true := by simpa using he
                  obtain rfl := HH.out he
                  clear he
                  go_wp2_with fail
                  go_ret
                  exact ⟨by rfl, below_step HB.out hb1⟩
              | 3, _ =>
                have HH : Aside0 (ckFl c.sv c.fl ≠ 0 → R = ckFl c.sv c.fl) := ⟨R1.out 3 (by omega) AN.out⟩
                have HZ : Aside0 (ckFl c.sv c.fl = 0 → ∀ j, j < 3 + 1 → ckAtT c j = 0) := ⟨ext0 (ckAtT c) 3 AN.out⟩
                have HC := Aside0.mk (ckF_total c p wr (HR.out.below HB.out))
                generalize ckFl c.sv c.fl = ev at HH HZ HC
                go_wp2_with fail
                refine HC.out.mono ?_
                rintro e w1 ⟨rfl, hb1⟩
                by_cases he : ev = 0
                · have heb : (ev != 0) = false := by simpa using he
                  have AN1 := Aside0.mk (HZ.out he)
                  clear he
                  go_wp2_with fail
                  go_roundg (5 - (3 + 1))
                  case measure => omega
                  case rel => exact ⟨3 + 1, by omega, by omega, by rfl, AN1, ⟨blk_below BK.out hb1⟩, ⟨below_step HB.out hb1⟩⟩
                · have heb : (ev != 0) = true := by simpa using he
                  obtain rfl := HH.out he
                  clear he
                  go_wp2_with fail
                  go_ret
                  exact ⟨by rfl, below_step HB.out hb1⟩
              | 4, _ =>
                have HH : Aside0 (ckRst c ≠ 0 → R = ckRst c) := ⟨R1.out 4 (by omega) AN.out⟩
                have HZ : Aside0 (ckRst c = 0 → ∀ j, j < 4 + 1 → ckAtT c j = 0) := ⟨ext0 (ckAtT c) 4 AN.out⟩
                have HC := Aside0.mk (ckR_total c p wr (HR.out.below HB.out) hne)
                generalize ckRst c = ev at HH HZ HC
                go_wp2_with fail
                refine HC.out.mono ?_
                rintro e w1 ⟨rfl, hb1⟩
                by_cases he : ev = 0
                · have heb : (ev != 0) = false := by simpa using he
                  have AN1 := Aside0.mk (HZ.out he)
                  clear he
                  go_wp2_with fail
                  go_roundg (5 - (4 + 1))
                  case measure => omega
                  case rel => exact ⟨4 + 1, by omega, by omega, by rfl, AN1, ⟨blk_below BK.out hb1⟩, ⟨below_step HB.out hb1⟩⟩
                · have heb : (ev != 0) = true := by simpa using he
                  obtain rfl := HH.out he
                  clear he
                  go_wp2_with fail
                  go_ret
                  exact ⟨by rfl, below_step HB.out hb1⟩
            · obtain rfl : i = 5 := by omega
              obtain rfl := R3.out AN.out
              go_wp2_with fail
              go_ret
              exact ⟨by rfl, HB.out⟩
set_option maxHeartbeats 4000000 in
set_option maxRecDepth 100000 in
theorem terr36 (c : Cfg) (p : CfgAt) (w : World) (fv : Value) (hR : CfgR w p c) (hr : ckT c ≠ 0) :
    Calls Try.prog 36 #[c.val p, fv] w fun e w' => e = .returned (.tuple #[.slice none 0 0, .int .i64 (ckT c)]) ∧ Below w.heap.size w w' := by
  have HR := Aside0.mk hR
  obtain ⟨A1, c1, A2, c2, A3, c3, A4, c4⟩ := p
  have HC := Aside0.mk (fun W (h : CfgR W ⟨A1, c1, A2, c2, A3, c3, A4, c4⟩ c) => check_total c ⟨A1, c1, A2, c2, A3, c3, A4, c4⟩ W h)
  clear hR
  have HRB : Aside0 ((ckT c != 0) = true) := ⟨by simpa using hr⟩
  clear hr
  generalize ckT c = r at HRB HC ⊢
  have hrb := HRB.out
  go_enter Try.func36, Try.ntmps36
  go_wp2_with fail
  refine (HC.out _ (HR.out.below (below_alloc (Below.refl _ _) _))).mono ?_
  rintro e w1 ⟨rfl, hb1⟩
  have HB := Aside0.mk (below_step (below_alloc (Below.refl w.heap.size w) _) hb1)
  clear hb1
  go_wp2_with fail
  go_returns
  exact ⟨by rfl, HB.out⟩
set_option maxHeartbeats 4000000 in
set_option maxRecDepth 100000 in
theorem Count_err (c : Cfg) (p : CfgAt) (w : World) (hR : CfgR w p c) (hr : ckT c ≠ 0) :
    Calls Try.prog 21 #[c.val p] w fun e w' => e = .returned (.tuple #[.int .i64 0, .int .i64 (ckT c)]) ∧ Below w.heap.size w w' := by
  have HR := Aside0.mk hR
  obtain ⟨A1, c1, A2, c2, A3, c3, A4, c4⟩ := p
  have HC := Aside0.mk (fun W (h : CfgR W ⟨A1, c1, A2, c2, A3, c3, A4, c4⟩ c) => check_total c ⟨A1, c1, A2, c2, A3, c3, A4, c4⟩ W h)
  clear hR
  have HRB : Aside0 ((ckT c != 0) = true) := ⟨by simpa using hr⟩
  clear hr
  generalize ckT c = r at HRB HC ⊢
  have hrb := HRB.out
  go_enter Try.func21, Try.ntmps21
  go_wp2_with fail
  refine (HC.out _ (HR.out.below (below_alloc (Below.refl _ _) _))).mono ?_
  rintro e w1 ⟨rfl, hb1⟩
  have HB := Aside0.mk (below_step (below_alloc (Below.refl w.heap.size w) _) hb1)
  clear hb1
  go_wp2_with fail
  go_returns
  exact ⟨by rfl, HB.out⟩
set_option maxHeartbeats 4000000 in
set_option maxRecDepth 100000 in
theorem Offset_err (c : Cfg) (p : CfgAt) (w : World) (clock : Int) (hR : CfgR w p c) (hr : ckT c ≠ 0) :
    Calls Try.prog 26 #[c.val p, .int .i64 clock] w fun e w' => e = .returned (.tuple #[.int .i64 0, .int .i64 (ckT c)]) ∧ Below w.heap.size w w' := by
  have HR := Aside0.mk hR
  obtain ⟨A1, c1, A2, c2, A3, c3, A4, c4⟩ := p
  have HC := Aside0.mk (fun W (h : CfgR W ⟨A1, c1, A2, c2, A3, c3, A4, c4⟩ c) => check_total c ⟨A1, c1, A2, c2, A3, c3, A4, c4⟩ W h)
  clear hR
  have HRB : Aside0 ((ckT c != 0) = true) := ⟨by simpa using hr⟩
  clear hr
  generalize ckT c = r at HRB HC ⊢
  have hrb := HRB.out
  go_enter Try.func26, Try.ntmps26
  go_wp2_with fail
  refine (HC.out _ (HR.out.below (below_alloc (Below.refl _ _) _))).mono ?_
  rintro e w1 ⟨rfl, hb1⟩
  have HB := Aside0.mk (below_step (below_alloc (Below.refl w.heap.size w) _) hb1)
  clear hb1
  go_wp2_with fail
  go_returns
  exact ⟨by rfl, HB.out⟩
end Go.Proofs.Ytdadnapfecmmdaa.P
