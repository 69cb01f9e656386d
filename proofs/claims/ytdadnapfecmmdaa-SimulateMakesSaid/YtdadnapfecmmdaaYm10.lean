/- Own texts of a proof about layer 55's simulate (merged): PF83, PF64, PF103, PF78, Hd, He. -/
import Derived.Test.YtdadnapfecmmdaaYm2
import Derived.Test.YtdadnapfecmmdaaYm3
import Derived.Test.YtdadnapfecmmdaaYm9
import Derived.StillTailTactics
namespace Go.Proofs.Ytdadnapfecmmdaa.P
open Go.RowKit Go.Proofs.YtdadnapfecmmdaaW.PrintWords Go.Proofs.YtdadnapfecmmdaaW.PrintLast Go.Proofs.YtdadnapfecmmdaaW.PrintMore
attribute [local go_sem] max2_int min2_int max_two min_two max_three min_three max_four min_four   -- for this text's walks alone
set_option linter.unusedVariables false
set_option linter.unusedSimpArgs false
def cmp_isNaN_int.f (a0 : Int) : Option (Bool) := some (a0 != a0)
set_option maxHeartbeats 8000000 in
set_option maxRecDepth 100000 in
theorem cmp_isNaN_int.calls (a0 : Int) (r : Bool) (w : World) (h : cmp_isNaN_int.f a0 = some r) :
    Calls Try.prog 83 #[.int .i64 a0] w fun e w' => e = .returned (.bool r) ∧ Drawn0 w w' := by
  have H : (some (a0 != a0)) = some r := h
  clear h
  obtain rfl := Option.some.inj H
  go_enter Try.func83, Try.ntmps83
  go_wp2
  go_ret
  exact ⟨by first | rfl | (simp; done) | (simp [*]; done), by repeat (first | exact Drawn0.refl _ | apply Drawn0.step)⟩
def cmp_Compare_int.f (a0 : Int) (a1 : Int) : Option (Int) := (cmp_isNaN_int.f a0).bind fun t125 => ((cmp_isNaN_int.f a1).bind fun t126 => (if t125 = true then (if t126 = true then (some 0) else (some (-1))) else (if t126 = true then (some 1) else (if a0 < a1 then (some (-1)) else (if a0 > a1 then (some 1) else (some 0))))))
set_option maxHeartbeats 8000000 in
set_option maxRecDepth 100000 in
theorem cmp_Compare_int.calls (a0 : Int) (a1 : Int) (r : Int) (w : World) (h : cmp_Compare_int.f a0 a1 = some r) :
    Calls Try.prog 64 #[.int .i64 a0, .int .i64 a1] w fun e w' => e = .returned (.int .i64 r) ∧ Drawn0 w w' := by
  have H : ((cmp_isNaN_int.f a0).bind fun t125 => ((cmp_isNaN_int.f a1).bind fun t126 => (if t125 = true then (if t126 = true then (some 0) else (some (-1))) else (if t126 = true then (some 1) else (if a0 < a1 then (some (-1)) else (if a0 > a1 then (some 1) else (some 0))))))) = some r := h
  clear h
  replace H := Option.bind_eq_some_iff.mp H
  obtain ⟨t125, A30, H⟩ := H
  replace H : ((cmp_isNaN_int.f a1).bind fun t126 => (if t125 = true then (if t126 = true then (some 0) else (some (-1))) else (if t126 = true then (some 1) else (if a0 < a1 then (some (-1)) else (if a0 > a1 then (some 1) else (some 0)))))) = some r := H
  have A3 := Aside0.mk A30
  clear A30
  replace H := Option.bind_eq_some_iff.mp H
  obtain ⟨t126, A40, H⟩ := H
  replace H : (if t125 = true then (if t126 = true then (some 0) else (some (-1))) else (if t126 = true then (some 1) else (if a0 < a1 then (some (-1)) else (if a0 > a1 then (some 1) else (some 0))))) = some r := H
  have A4 := Aside0.mk A40
  clear A40
  by_cases c5 : t125 = true
  · subst c5
    have H1 : (if t126 = true then (some 0) else (some (-1))) = some r := by rw [if_pos rfl] at H; exact H
    clear H
    have H := H1
    clear H1
    by_cases c6 : t126 = true
    · subst c6
      have H1 : (some 0) = some r := by rw [if_pos rfl] at H; exact H
      clear H
      have H := H1
      clear H1
      obtain rfl := Option.some.inj H
      go_enter Try.func64, Try.ntmps64
      go_wp2_with (first | ((with_reducible refine gate_callee (f := 83) rfl ?_); refine goesL_ (some 8) rfl rfl Try.func83 (by kernel_rfl) rfl #[.int .i64 a0] rfl (by (try simp only [List.map_toArray, List.map_cons, List.map_nil]); first | done | rfl | (simp only [List.length_drop, List.length_take]; rfl)) ?_; (with_reducible refine (cmp_isNaN_int.calls a0 true _ A3.out).mono ?_); rintro e w' ⟨rfl, ⟨nd, rfl⟩⟩; refine ⟨_, rfl, ?_⟩) | ((with_reducible refine gate_callee (f := 83) rfl ?_); refine goesL_ (some 10) rfl rfl Try.func83 (by kernel_rfl) rfl #[.int .i64 a1] rfl (by (try simp only [List.map_toArray, List.map_cons, List.map_nil]); first | done | rfl | (simp only [List.length_drop, List.length_take]; rfl)) ?_; (with_reducible refine (cmp_isNaN_int.calls a1 true _ A4.out).mono ?_); rintro e w' ⟨rfl, ⟨nd, rfl⟩⟩; refine ⟨_, rfl, ?_⟩))
      go_ret
      exact ⟨by first | rfl | (simp; done) | (simp [*]; done), by repeat (first | exact Drawn0.refl _ | apply Drawn0.step)⟩
    · replace c6 := Bool.eq_false_iff.mpr c6
      subst c6
      have H1 : (some (-1)) = some r := by rw [if_neg (show ¬ (false = true) by decide)] at H; exact H
      clear H
      have H := H1
      clear H1
      obtain rfl := Option.some.inj H
      go_enter Try.func64, Try.ntmps64
      go_wp2_with (first | ((with_reducible refine gate_callee (f := 83) rfl ?_); refine goesL_ (some 8) rfl rfl Try.func83 (by kernel_rfl) rfl #[.int .i64 a0] rfl (by (try simp only [List.map_toArray, List.map_cons, List.map_nil]); first | done | rfl | (simp only [List.length_drop, List.length_take]; rfl)) ?_; (with_reducible refine (cmp_isNaN_int.calls a0 true _ A3.out).mono ?_); rintro e w' ⟨rfl, ⟨nd, rfl⟩⟩; refine ⟨_, rfl, ?_⟩) | ((with_reducible refine gate_callee (f := 83) rfl ?_); refine goesL_ (some 10) rfl rfl Try.func83 (by kernel_rfl) rfl #[.int .i64 a1] rfl (by (try simp only [List.map_toArray, List.map_cons, List.map_nil]); first | done | rfl | (simp only [List.length_drop, List.length_take]; rfl)) ?_; (with_reducible refine (cmp_isNaN_int.calls a1 false _ A4.out).mono ?_); rintro e w' ⟨rfl, ⟨nd, rfl⟩⟩; refine ⟨_, rfl, ?_⟩))
      go_ret
      exact ⟨by first | rfl | (simp; done) | (simp [*]; done), by repeat (first | exact Drawn0.refl _ | apply Drawn0.step)⟩
  · replace c5 := Bool.eq_false_iff.mpr c5
    subst c5
    have H1 : (if t126 = true then (some 1) else (if a0 < a1 then (some (-1)) else (if a0 > a1 then (some 1) else (some 0)))) = some r := by rw [if_neg (show ¬ (false = true) by decide)] at H; exact H
    clear H
    have H := H1
    clear H1
    by_cases c7 : t126 = true
    · subst c7
      have H1 : (some 1) = some r := by rw [if_pos rfl] at H; exact H
      clear H
      have H := H1
      clear H1
      obtain rfl := Option.some.inj H
      go_enter Try.func64, Try.ntmps64
      go_wp2_with (first | ((with_reducible refine gate_callee (f := 83) rfl ?_); refine goesL_ (some 8) rfl rfl Try.func83 (by kernel_rfl) rfl #[.int .i64 a0] rfl (by (try simp only [List.map_toArray, List.map_cons, List.map_nil]); first | done | rfl | (simp only [List.length_drop, List.length_take]; rfl)) ?_; (with_reducible refine (cmp_isNaN_int.calls a0 false _ A3.out).mono ?_); rintro e w' ⟨rfl, ⟨nd, rfl⟩⟩; refine ⟨_, rfl, ?_⟩) | ((with_reducible refine gate_callee (f := 83) rfl ?_); refine goesL_ (some 10) rfl rfl Try.func83 (by kernel_rfl) rfl #[.int .i64 a1] rfl (by (try simp only [List.map_toArray, List.map_cons, List.map_nil]); first | done | rfl | (simp only [List.length_drop, List.length_take]; rfl)) ?_; (with_reducible refine (cmp_isNaN_int.calls a1 true _ A4.out).mono ?_); rintro e w' ⟨rfl, ⟨nd, rfl⟩⟩; refine ⟨_, rfl, ?_⟩))
      go_ret
      exact ⟨by first | rfl | (simp; done) | (simp [*]; done), by repeat (first | exact Drawn0.refl _ | apply Drawn0.step)⟩
    · replace c7 := Bool.eq_false_iff.mpr c7
      subst c7
      have H1 : (if a0 < a1 then (some (-1)) else (if a0 > a1 then (some 1) else (some 0))) = some r := by rw [if_neg (show ¬ (false = true) by decide)] at H; exact H
      clear H
      have H := H1
      clear H1
      by_cases c8 : a0 < a1
      · rw [if_pos c8] at H
        have c8b0 : decide (a0 < a1) = true := decide_eq_true c8
        clear c8
        obtain rfl := Option.some.inj H
        go_enter Try.func64, Try.ntmps64
        go_wp2_with (first | ((with_reducible refine gate_callee (f := 83) rfl ?_); refine goesL_ (some 8) rfl rfl Try.func83 (by kernel_rfl) rfl #[.int .i64 a0] rfl (by (try simp only [List.map_toArray, List.map_cons, List.map_nil]); first | done | rfl | (simp only [List.length_drop, List.length_take]; rfl)) ?_; (with_reducible refine (cmp_isNaN_int.calls a0 false _ A3.out).mono ?_); rintro e w' ⟨rfl, ⟨nd, rfl⟩⟩; refine ⟨_, rfl, ?_⟩) | ((with_reducible refine gate_callee (f := 83) rfl ?_); refine goesL_ (some 10) rfl rfl Try.func83 (by kernel_rfl) rfl #[.int .i64 a1] rfl (by (try simp only [List.map_toArray, List.map_cons, List.map_nil]); first | done | rfl | (simp only [List.length_drop, List.length_take]; rfl)) ?_; (with_reducible refine (cmp_isNaN_int.calls a1 false _ A4.out).mono ?_); rintro e w' ⟨rfl, ⟨nd, rfl⟩⟩; refine ⟨_, rfl, ?_⟩))
        go_ret
        exact ⟨by first | rfl | (simp; done) | (simp [*]; done), by repeat (first | exact Drawn0.refl _ | apply Drawn0.step)⟩
      · rw [if_neg c8] at H
        have c8b0 : decide (a0 < a1) = false := decide_eq_false c8
        clear c8
        by_cases c9 : a0 > a1
        · rw [if_pos c9] at H
          have c9b0 : decide (a1 < a0) = true := decide_eq_true c9
          clear c9
          obtain rfl := Option.some.inj H
          go_enter Try.func64, Try.ntmps64
          go_wp2_with (first | ((with_reducible refine gate_callee (f := 83) rfl ?_); refine goesL_ (some 8) rfl rfl Try.func83 (by kernel_rfl) rfl #[.int .i64 a0] rfl (by (try simp only [List.map_toArray, List.map_cons, List.map_nil]); first | done | rfl | (simp only [List.length_drop, List.length_take]; rfl)) ?_; (with_reducible refine (cmp_isNaN_int.calls a0 false _ A3.out).mono ?_); rintro e w' ⟨rfl, ⟨nd, rfl⟩⟩; refine ⟨_, rfl, ?_⟩) | ((with_reducible refine gate_callee (f := 83) rfl ?_); refine goesL_ (some 10) rfl rfl Try.func83 (by kernel_rfl) rfl #[.int .i64 a1] rfl (by (try simp only [List.map_toArray, List.map_cons, List.map_nil]); first | done | rfl | (simp only [List.length_drop, List.length_take]; rfl)) ?_; (with_reducible refine (cmp_isNaN_int.calls a1 false _ A4.out).mono ?_); rintro e w' ⟨rfl, ⟨nd, rfl⟩⟩; refine ⟨_, rfl, ?_⟩))
          go_ret
          exact ⟨by first | rfl | (simp; done) | (simp [*]; done), by repeat (first | exact Drawn0.refl _ | apply Drawn0.step)⟩
        · rw [if_neg c9] at H
          have c9b0 : decide (a1 < a0) = false := decide_eq_false c9
          clear c9
          obtain rfl := Option.some.inj H
          go_enter Try.func64, Try.ntmps64
          go_wp2_with (first | ((with_reducible refine gate_callee (f := 83) rfl ?_); refine goesL_ (some 8) rfl rfl Try.func83 (by kernel_rfl) rfl #[.int .i64 a0] rfl (by (try simp only [List.map_toArray, List.map_cons, List.map_nil]); first | done | rfl | (simp only [List.length_drop, List.length_take]; rfl)) ?_; (with_reducible refine (cmp_isNaN_int.calls a0 false _ A3.out).mono ?_); rintro e w' ⟨rfl, ⟨nd, rfl⟩⟩; refine ⟨_, rfl, ?_⟩) | ((with_reducible refine gate_callee (f := 83) rfl ?_); refine goesL_ (some 10) rfl rfl Try.func83 (by kernel_rfl) rfl #[.int .i64 a1] rfl (by (try simp only [List.map_toArray, List.map_cons, List.map_nil]); first | done | rfl | (simp only [List.length_drop, List.length_take]; rfl)) ?_; (with_reducible refine (cmp_isNaN_int.calls a1 false _ A4.out).mono ?_); rintro e w' ⟨rfl, ⟨nd, rfl⟩⟩; refine ⟨_, rfl, ?_⟩))
          go_ret
          exact ⟨by first | rfl | (simp; done) | (simp [*]; done), by repeat (first | exact Drawn0.refl _ | apply Drawn0.step)⟩
def cmp_Compare_string.f (a0 : ByteArray) (a1 : ByteArray) : Option (Int) := some (cmpStr a0 a1)
theorem cmp_Compare_string.calls (a0 : ByteArray) (a1 : ByteArray) (r : Int) (w : World) (h : cmp_Compare_string.f a0 a1 = some r) :
    Calls Try.prog 103 #[.string a0, .string a1] w fun e w' => e = .returned (.int .i64 r) ∧ Drawn0 w w' := by
  obtain rfl := Option.some.inj h
  refine (cmpStr_calls a0 a1 w).mono ?_
  rintro e w' ⟨he, rfl⟩
  exact ⟨he, Drawn0.refl _⟩
def deployment_Compare.f (k : Nat) (a0_0 : Int) (a0_1 : Int) (a0_2 : Int) (a0_3 : ByteArray) (a0_4 : ByteArray) (a0_5 : ByteArray) (a1_0 : Int) (a1_1 : Int) (a1_2 : Int) (a1_3 : ByteArray) (a1_4 : ByteArray) (a1_5 : ByteArray) : Option (Int) := (cmp_Compare_int.f a0_2 a1_2).bind fun t129 => ((cmp_Compare_int.f a0_0 a1_0).bind fun t130 => ((cmp_Compare_int.f a0_1 a1_1).bind fun t131 => ((cmp_Compare_string.f a0_3 a1_3).bind fun t132 => ((cmp_Compare_string.f a0_4 a1_4).bind fun t133 => ((cmp_Compare_string.f a0_5 a1_5).bind fun t134 => ((cmp_Or_int.f k (([t129, t130, t131, t132, t133, t134] : List Int))).bind fun t138 => (some t138)))))))
theorem deployment_Compare.mono : ∀ a0 a1 a2 a3 a4 a5 a6 a7 a8 a9 a10 a11 k, LeO (deployment_Compare.f k a0 a1 a2 a3 a4 a5 a6 a7 a8 a9 a10 a11) (deployment_Compare.f (k + 1) a0 a1 a2 a3 a4 a5 a6 a7 a8 a9 a10 a11) := by
  intro a0 a1 a2 a3 a4 a5 a6 a7 a8 a9 a10 a11 k
  unfold deployment_Compare.f
  repeat' first
      | (with_reducible exact cmp_Or_int.mono _ _)
      | (with_reducible exact LeO.refl _)
      | (with_reducible exact LeO.none _)
      | (with_reducible refine LeO.ite ?_ ?_)
      | (with_reducible refine LeO.bind ?_ (fun _ => ?_))
      | exact cmp_Or_int.mono _ _
      | exact LeO.none _
      | refine LeO.ite ?_ ?_
      | refine LeO.bind ?_ (fun _ => ?_)
def deployment_Compare.T1 : Bool × List (List Nat × List Nat) := (true, [([], []), ([0], [0]), ([], []), ([2], [2]), ([1, 3], [1, 3]), ([], []), ([5], [5]), ([], []), ([7], [7]), ([6, 8, 4], [6, 8]), ([], []), ([10], [10]), ([], []), ([12], [12]), ([11, 13, 9], [11, 13]), ([], []), ([15], [15]), ([], []), ([17], [17]), ([16, 18, 14], [16, 18]), ([], []), ([20], [20]), ([], []), ([22], [22]), ([21, 23, 19], [21, 23]), ([], []), ([25], [25]), ([], []), ([27], [27]), ([26, 28, 24], [26, 28]), ([4, 9, 14, 19, 24, 29], [4, 9, 14, 19, 24, 29]), ([30, 29], [30]), ([31, 31, 0, 1, 2, 3, 4, 5, 6, 7, 8, 9, 10, 11, 12, 13, 14, 15, 16, 17, 18, 19, 20, 21, 22, 23, 24, 25, 26, 27, 28, 29, 30, 31], [31])])
def deployment_Compare.B1 : List Nat := [0, 1, 0, 4, 15, 0, 32, 0, 128, 511, 0, 1024, 0, 4096, 16383, 0, 32768, 0, 131072, 524287, 0, 1048576, 0, 4194304, 16777215, 0, 33554432, 0, 134217728, 536870911, 1073741823, 2147483647, 4294967295]
theorem deployment_Compare.tab1 : rtab .any (opsOf Try.f78 1) = deployment_Compare.T1 := by kernel_rfl
theorem deployment_Compare.bits1 : waitsOk deployment_Compare.T1.2 deployment_Compare.B1 = true := by kernel_rfl
set_option maxHeartbeats 8000000 in
set_option maxRecDepth 100000 in
theorem deployment_Compare.calls (k : Nat) (a0_0 : Int) (a0_1 : Int) (a0_2 : Int) (a0_3 : ByteArray) (a0_4 : ByteArray) (a0_5 : ByteArray) (a1_0 : Int) (a1_1 : Int) (a1_2 : Int) (a1_3 : ByteArray) (a1_4 : ByteArray) (a1_5 : ByteArray) (r : Int) (w : World) (h : deployment_Compare.f k a0_0 a0_1 a0_2 a0_3 a0_4 a0_5 a1_0 a1_1 a1_2 a1_3 a1_4 a1_5 = some r) :
    Calls Try.prog 78 #[.agg #[.int .i64 a0_0, .int .i64 a0_1, .int .i64 a0_2, .string a0_3, .string a0_4, .string a0_5], .agg #[.int .i64 a1_0, .int .i64 a1_1, .int .i64 a1_2, .string a1_3, .string a1_4, .string a1_5]] w fun e w' => e = .returned (.int .i64 r) ∧ Below w.heap.size w w' := by
  have hu100 := Try.underlying100
  have HB := Aside0.mk (Below.refl w.heap.size w)
  have H : ((cmp_Compare_int.f a0_2 a1_2).bind fun t129 => ((cmp_Compare_int.f a0_0 a1_0).bind fun t130 => ((cmp_Compare_int.f a0_1 a1_1).bind fun t131 => ((cmp_Compare_string.f a0_3 a1_3).bind fun t132 => ((cmp_Compare_string.f a0_4 a1_4).bind fun t133 => ((cmp_Compare_string.f a0_5 a1_5).bind fun t134 => ((cmp_Or_int.f k (([t129, t130, t131, t132, t133, t134] : List Int))).bind fun t138 => (some t138)))))))) = some r := h
  clear h
  replace H := Option.bind_eq_some_iff.mp H
  obtain ⟨t129, A30, H⟩ := H
  replace H : ((cmp_Compare_int.f a0_0 a1_0).bind fun t130 => ((cmp_Compare_int.f a0_1 a1_1).bind fun t131 => ((cmp_Compare_string.f a0_3 a1_3).bind fun t132 => ((cmp_Compare_string.f a0_4 a1_4).bind fun t133 => ((cmp_Compare_string.f a0_5 a1_5).bind fun t134 => ((cmp_Or_int.f k (([t129, t130, t131, t132, t133, t134] : List Int))).bind fun t138 => (some t138))))))) = some r := H
  have A3 := Aside0.mk A30
  clear A30
  replace H := Option.bind_eq_some_iff.mp H
  obtain ⟨t130, A40, H⟩ := H
  replace H : ((cmp_Compare_int.f a0_1 a1_1).bind fun t131 => ((cmp_Compare_string.f a0_3 a1_3).bind fun t132 => ((cmp_Compare_string.f a0_4 a1_4).bind fun t133 => ((cmp_Compare_string.f a0_5 a1_5).bind fun t134 => ((cmp_Or_int.f k (([t129, t130, t131, t132, t133, t134] : List Int))).bind fun t138 => (some t138)))))) = some r := H
  have A4 := Aside0.mk A40
  clear A40
  replace H := Option.bind_eq_some_iff.mp H
  obtain ⟨t131, A50, H⟩ := H
  replace H : ((cmp_Compare_string.f a0_3 a1_3).bind fun t132 => ((cmp_Compare_string.f a0_4 a1_4).bind fun t133 => ((cmp_Compare_string.f a0_5 a1_5).bind fun t134 => ((cmp_Or_int.f k (([t129, t130, t131, t132, t133, t134] : List Int))).bind fun t138 => (some t138))))) = some r := H
  have A5 := Aside0.mk A50
  clear A50
  replace H := Option.bind_eq_some_iff.mp H
  obtain ⟨t132, A60, H⟩ := H
  replace H : ((cmp_Compare_string.f a0_4 a1_4).bind fun t133 => ((cmp_Compare_string.f a0_5 a1_5).bind fun t134 => ((cmp_Or_int.f k (([t129, t130, t131, t132, t133, t134] : List Int))).bind fun t138 => (some t138)))) = some r := H
  have A6 := Aside0.mk A60
  clear A60
  replace H := Option.bind_eq_some_iff.mp H
  obtain ⟨t133, A70, H⟩ := H
  replace H : ((cmp_Compare_string.f a0_5 a1_5).bind fun t134 => ((cmp_Or_int.f k (([t129, t130, t131, t132, t133, t134] : List Int))).bind fun t138 => (some t138))) = some r := H
  have A7 := Aside0.mk A70
  clear A70
  replace H := Option.bind_eq_some_iff.mp H
  obtain ⟨t134, A80, H⟩ := H
  replace H : ((cmp_Or_int.f k (([t129, t130, t131, t132, t133, t134] : List Int))).bind fun t138 => (some t138)) = some r := H
  have A8 := Aside0.mk A80
  clear A80
  obtain ⟨y135, hy135⟩ : ∃ y_ : List Int, y_ = (([t129, t130, t131, t132, t133, t134] : List Int)) := ⟨_, rfl⟩
  replace H : ((cmp_Or_int.f k y135).bind fun t138 => (some t138)) = some r := by first | (rw [hy135]; with_reducible exact H) | (have H2_ := (Option.bind_some _ _).symm.trans H; rw [hy135]; with_reducible exact H2_) | (have H2_ := (Option.bind_some _ _).symm.trans H; with_reducible exact H2_) | with_reducible exact H | (rw [hy135]; exact H) | exact H
  have Ny135 := Aside0.mk hy135
  clear hy135
  replace H := Option.bind_eq_some_iff.mp H
  obtain ⟨t138, A90, H⟩ := H
  replace H : (some t138) = some r := H
  have A9 := Aside0.mk A90
  clear A90
  obtain rfl := Option.some.inj H
  go_enter Try.func78, Try.ntmps78
  try go_wp2_with (first | ((with_reducible refine gate_dst (N := 2) rfl ?_); refine box_event ?hg (N := 2) ?hd (cs := #[.int .i64 a0_0, .int .i64 a0_1, .int .i64 a0_2, .string a0_3, .string a0_4, .string a0_5]) (t := 100) ?hr ?_; (case hd => rfl); (case hg => rfl); (case hr => first | (go_simp; done) | (go_simp; rfl)); intro gb127 hg w10 hbox hb; have n0_ := Aside0.mk (below_step (by repeat (first | (with_reducible first | exact HB.out | apply below_alloc | apply pw_below_drewN | apply below_drew1) | exact HB.out)) hb); have n1_ := Aside0.mk (hbox); have n2_ := Aside0.mk ((by rw [hg]; exact (below_size (by repeat (first | (with_reducible first | exact HB.out | apply below_alloc | apply pw_below_drewN | apply below_drew1) | exact HB.out))) : w.heap.size ≤ gb127)); have n3_ := Aside0.mk ((by rw [hg]; exact (below_size (by repeat (first | (with_reducible first | exact HB.out | apply below_alloc | apply pw_below_drewN | apply below_drew1) | exact HB.out))) : w.heap.size ≤ gb127)); clear HB; have HB := n0_; have BK127 := n1_; have GW127 := n2_; have GE127 := n3_; clear n0_ n1_ n2_ n3_; clear hb hbox hg) | ((with_reducible refine gate_dst (N := 3) rfl ?_); refine box_event ?hg (N := 3) ?hd (cs := #[.int .i64 a1_0, .int .i64 a1_1, .int .i64 a1_2, .string a1_3, .string a1_4, .string a1_5]) (t := 100) ?hr ?_; (case hd => rfl); (case hg => rfl); (case hr => first | (go_simp; done) | (go_simp; rfl)); intro gb128 hg w11 hbox hb; have n0_ := Aside0.mk (blk_below (g := gb127) (o := .cells #[.int .i64 a0_0, .int .i64 a0_1, .int .i64 a0_2, .string a0_3, .string a0_4, .string a0_5] 100 (0, 0)) (by (with_reducible repeat (first | refine blk_drewN ?_ _ | refine blk_drew ?_ | refine blk_alloc ?_ _)); exact BK127.out) hb); have n1_ := Aside0.mk (below_step (by repeat (first | (with_reducible first | exact HB.out | apply below_alloc | apply pw_below_drewN | apply below_drew1 | refine below_set ?_ GE127.out) | exact HB.out)) hb); have n2_ := Aside0.mk (hbox); have n3_ := Aside0.mk ((by rw [hg]; exact (below_size (by repeat (first | (with_reducible first | exact HB.out | apply below_alloc | apply pw_below_drewN | apply below_drew1 | refine below_set ?_ GE127.out) | exact HB.out))) : w.heap.size ≤ gb128)); have n4_ := Aside0.mk ((by rw [hg]; exact (below_size (by repeat (first | (with_reducible first | exact HB.out | apply below_alloc | apply pw_below_drewN | apply below_drew1 | refine below_set ?_ GE127.out) | exact HB.out))) : w.heap.size ≤ gb128)); have n5_ := Aside0.mk ((by rw [hg]; exact Nat.ne_of_lt (blk_lt (g := gb127) (o := .cells #[.int .i64 a0_0, .int .i64 a0_1, .int .i64 a0_2, .string a0_3, .string a0_4, .string a0_5] 100 (0, 0)) (by (with_reducible repeat (first | refine blk_drewN ?_ _ | refine blk_drew ?_ | refine blk_alloc ?_ _)); exact BK127.out)) : gb127 ≠ gb128)); have n6_ := Aside0.mk ((by rw [hg]; exact Nat.ne_of_gt (blk_lt (g := gb127) (o := .cells #[.int .i64 a0_0, .int .i64 a0_1, .int .i64 a0_2, .string a0_3, .string a0_4, .string a0_5] 100 (0, 0)) (by (with_reducible repeat (first | refine blk_drewN ?_ _ | refine blk_drew ?_ | refine blk_alloc ?_ _)); exact BK127.out)) : gb128 ≠ gb127)); clear BK127; clear HB; have BK127 := n0_; have HB := n1_; have BK128 := n2_; have GW128 := n3_; have GE128 := n4_; have NB127_128 := n5_; have NB128_127 := n6_; clear n0_ n1_ n2_ n3_ n4_ n5_ n6_; clear hb hbox hg))
  have n0_ := Aside0.mk (blk_drew BK127.out)
  have n1_ := Aside0.mk (blk_drew BK128.out)
  have n2_ := Aside0.mk (below_drew1 HB.out)
  clear BK127
  clear BK128
  clear HB
  have BK127 := n0_
  have BK128 := n1_
  have HB := n2_
  clear n0_ n1_ n2_
  refine start_ (n := 33) (S := fun w' => w'.cell? ⟨gb127, 0, none⟩ = some (.int .i64 a0_0) ∧ w'.cell? ⟨gb127, 1, none⟩ = some (.int .i64 a0_1) ∧ w'.cell? ⟨gb127, 2, none⟩ = some (.int .i64 a0_2) ∧ w'.cell? ⟨gb127, 3, none⟩ = some (.string a0_3) ∧ w'.cell? ⟨gb127, 4, none⟩ = some (.string a0_4) ∧ w'.cell? ⟨gb127, 5, none⟩ = some (.string a0_5) ∧ w'.cell? ⟨gb128, 0, none⟩ = some (.int .i64 a1_0) ∧ w'.cell? ⟨gb128, 1, none⟩ = some (.int .i64 a1_1) ∧ w'.cell? ⟨gb128, 2, none⟩ = some (.int .i64 a1_2) ∧ w'.cell? ⟨gb128, 3, none⟩ = some (.string a1_3) ∧ w'.cell? ⟨gb128, 4, none⟩ = some (.string a1_4) ∧ w'.cell? ⟨gb128, 5, none⟩ = some (.string a1_5)) (ds := []) #[false, false, false, false, false, false, false, false, false, false, false, false, false, false, false, false, false, false, false, false, false, false, false, false, false, false, false, false, false, false, false, false, false] (by kernel_rfl) rfl rfl ⟨(blk_cell BK127.out 0).trans rfl, (blk_cell BK127.out 1).trans rfl, (blk_cell BK127.out 2).trans rfl, (blk_cell BK127.out 3).trans rfl, (blk_cell BK127.out 4).trans rfl, (blk_cell BK127.out 5).trans rfl, (blk_cell BK128.out 0).trans rfl, (blk_cell BK128.out 1).trans rfl, (blk_cell BK128.out 2).trans rfl, (blk_cell BK128.out 3).trans rfl, (blk_cell BK128.out 4).trans rfl, (blk_cell BK128.out 5).trans rfl⟩ (fun hHeld => ?_); refine with_tabW deployment_Compare.tab1 deployment_Compare.bits1 (fun HT_ HW_ => ?_)
  generalize w11.drew = w12 at BK127 BK128 HB hHeld ⊢
  refine pu_ 0 (some 5) (bq 33 1) HT_ rfl rfl ?_
  refine pu_ 2 (some 7) (bq 33 5) HT_ rfl rfl ?_
  refine pu_ 5 (some 10) (bq 33 37) HT_ rfl rfl ?_
  refine pu_ 7 (some 12) (bq 33 165) HT_ rfl rfl ?_
  refine pu_ 10 (some 15) (bq 33 1189) HT_ rfl rfl ?_
  refine pu_ 12 (some 17) (bq 33 5285) HT_ rfl rfl ?_
  refine pu_ 15 (some 20) (bq 33 38053) HT_ rfl rfl ?_
  refine pu_ 17 (some 22) (bq 33 169125) HT_ rfl rfl ?_
  refine pu_ 20 (some 25) (bq 33 1217701) HT_ rfl rfl ?_
  refine pu_ 22 (some 27) (bq 33 5412005) HT_ rfl rfl ?_
  refine pu_ 25 (some 30) (bq 33 38966437) HT_ rfl rfl ?_
  refine pu_ 27 (some 32) (bq 33 173184165) HT_ rfl rfl ?_
  refine take_ (i := 1) (N := some 6) (v := ?_) (a' := ?_) #[true, true, true, false, false, true, false, true, false, false, true, false, true, false, false, true, false, true, false, false, true, false, true, false, false, true, false, true, false, false, false, false, false] rfl rfl (take_ofW HT_.out HW_.out (by kernel_rfl)) (fun _ _ _ h => h) (Or.inl ⟨by rfl, ?_⟩) hHeld ?_ ?_
  rotate_left
  · rintro w' ⟨s0, s1, s2, s3, s4, s5, s6, s7, s8, s9, s10, s11⟩
    go_simp
    with_reducible rfl
  rotate_left
  · simp only [Act.put, List.setIfInBounds_toArray, List.set_cons_zero, List.set_cons_succ, i64_w, i32_w]
    rfl
  refine take_ (i := 3) (N := some 8) (v := ?_) (a' := ?_) #[true, true, true, true, false, true, false, true, false, false, true, false, true, false, false, true, false, true, false, false, true, false, true, false, false, true, false, true, false, false, false, false, false] rfl rfl (take_ofW HT_.out HW_.out (by kernel_rfl)) (fun _ _ _ h => h) (Or.inl ⟨by rfl, ?_⟩) hHeld ?_ ?_
  rotate_left
  · rintro w' ⟨s0, s1, s2, s3, s4, s5, s6, s7, s8, s9, s10, s11⟩
    go_simp
    with_reducible rfl
  rotate_left
  · simp only [Act.put, List.setIfInBounds_toArray, List.set_cons_zero, List.set_cons_succ, i64_w, i32_w]
    rfl
  refine take_ (i := 6) (N := some 11) (v := ?_) (a' := ?_) #[true, true, true, true, false, true, true, true, false, false, true, false, true, false, false, true, false, true, false, false, true, false, true, false, false, true, false, true, false, false, false, false, false] rfl rfl (take_ofW HT_.out HW_.out (by kernel_rfl)) (fun _ _ _ h => h) (Or.inl ⟨by rfl, ?_⟩) hHeld ?_ ?_
  rotate_left
  · rintro w' ⟨s0, s1, s2, s3, s4, s5, s6, s7, s8, s9, s10, s11⟩
    go_simp
    with_reducible rfl
  rotate_left
  · simp only [Act.put, List.setIfInBounds_toArray, List.set_cons_zero, List.set_cons_succ, i64_w, i32_w]
    rfl
  refine take_ (i := 8) (N := some 13) (v := ?_) (a' := ?_) #[true, true, true, true, false, true, true, true, true, false, true, false, true, false, false, true, false, true, false, false, true, false, true, false, false, true, false, true, false, false, false, false, false] rfl rfl (take_ofW HT_.out HW_.out (by kernel_rfl)) (fun _ _ _ h => h) (Or.inl ⟨by rfl, ?_⟩) hHeld ?_ ?_
  rotate_left
  · rintro w' ⟨s0, s1, s2, s3, s4, s5, s6, s7, s8, s9, s10, s11⟩
    go_simp
    with_reducible rfl
  rotate_left
  · simp only [Act.put, List.setIfInBounds_toArray, List.set_cons_zero, List.set_cons_succ, i64_w, i32_w]
    rfl
  refine take_ (i := 11) (N := some 16) (v := ?_) (a' := ?_) #[true, true, true, true, false, true, true, true, true, false, true, true, true, false, false, true, false, true, false, false, true, false, true, false, false, true, false, true, false, false, false, false, false] rfl rfl (take_ofW HT_.out HW_.out (by kernel_rfl)) (fun _ _ _ h => h) (Or.inl ⟨by rfl, ?_⟩) hHeld ?_ ?_
  rotate_left
  · rintro w' ⟨s0, s1, s2, s3, s4, s5, s6, s7, s8, s9, s10, s11⟩
    go_simp
    with_reducible rfl
  rotate_left
  · simp only [Act.put, List.setIfInBounds_toArray, List.set_cons_zero, List.set_cons_succ, i64_w, i32_w]
    rfl
  refine take_ (i := 13) (N := some 18) (v := ?_) (a' := ?_) #[true, true, true, true, false, true, true, true, true, false, true, true, true, true, false, true, false, true, false, false, true, false, true, false, false, true, false, true, false, false, false, false, false] rfl rfl (take_ofW HT_.out HW_.out (by kernel_rfl)) (fun _ _ _ h => h) (Or.inl ⟨by rfl, ?_⟩) hHeld ?_ ?_
  rotate_left
  · rintro w' ⟨s0, s1, s2, s3, s4, s5, s6, s7, s8, s9, s10, s11⟩
    go_simp
    with_reducible rfl
  rotate_left
  · simp only [Act.put, List.setIfInBounds_toArray, List.set_cons_zero, List.set_cons_succ, i64_w, i32_w]
    rfl
  refine take_ (i := 16) (N := some 21) (v := ?_) (a' := ?_) #[true, true, true, true, false, true, true, true, true, false, true, true, true, true, false, true, true, true, false, false, true, false, true, false, false, true, false, true, false, false, false, false, false] rfl rfl (take_ofW HT_.out HW_.out (by kernel_rfl)) (fun _ _ _ h => h) (Or.inl ⟨by rfl, ?_⟩) hHeld ?_ ?_
  rotate_left
  · rintro w' ⟨s0, s1, s2, s3, s4, s5, s6, s7, s8, s9, s10, s11⟩
    go_simp
    with_reducible rfl
  rotate_left
  · simp only [Act.put, List.setIfInBounds_toArray, List.set_cons_zero, List.set_cons_succ, i64_w, i32_w]
    rfl
  refine take_ (i := 18) (N := some 23) (v := ?_) (a' := ?_) #[true, true, true, true, false, true, true, true, true, false, true, true, true, true, false, true, true, true, true, false, true, false, true, false, false, true, false, true, false, false, false, false, false] rfl rfl (take_ofW HT_.out HW_.out (by kernel_rfl)) (fun _ _ _ h => h) (Or.inl ⟨by rfl, ?_⟩) hHeld ?_ ?_
  rotate_left
  · rintro w' ⟨s0, s1, s2, s3, s4, s5, s6, s7, s8, s9, s10, s11⟩
    go_simp
    with_reducible rfl
  rotate_left
  · simp only [Act.put, List.setIfInBounds_toArray, List.set_cons_zero, List.set_cons_succ, i64_w, i32_w]
    rfl
  refine take_ (i := 21) (N := some 26) (v := ?_) (a' := ?_) #[true, true, true, true, false, true, true, true, true, false, true, true, true, true, false, true, true, true, true, false, true, true, true, false, false, true, false, true, false, false, false, false, false] rfl rfl (take_ofW HT_.out HW_.out (by kernel_rfl)) (fun _ _ _ h => h) (Or.inl ⟨by rfl, ?_⟩) hHeld ?_ ?_
  rotate_left
  · rintro w' ⟨s0, s1, s2, s3, s4, s5, s6, s7, s8, s9, s10, s11⟩
    go_simp
    with_reducible rfl
  rotate_left
  · simp only [Act.put, List.setIfInBounds_toArray, List.set_cons_zero, List.set_cons_succ, i64_w, i32_w]
    rfl
  refine take_ (i := 23) (N := some 28) (v := ?_) (a' := ?_) #[true, true, true, true, false, true, true, true, true, false, true, true, true, true, false, true, true, true, true, false, true, true, true, true, false, true, false, true, false, false, false, false, false] rfl rfl (take_ofW HT_.out HW_.out (by kernel_rfl)) (fun _ _ _ h => h) (Or.inl ⟨by rfl, ?_⟩) hHeld ?_ ?_
  rotate_left
  · rintro w' ⟨s0, s1, s2, s3, s4, s5, s6, s7, s8, s9, s10, s11⟩
    go_simp
    with_reducible rfl
  rotate_left
  · simp only [Act.put, List.setIfInBounds_toArray, List.set_cons_zero, List.set_cons_succ, i64_w, i32_w]
    rfl
  refine take_ (i := 26) (N := some 31) (v := ?_) (a' := ?_) #[true, true, true, true, false, true, true, true, true, false, true, true, true, true, false, true, true, true, true, false, true, true, true, true, false, true, true, true, false, false, false, false, false] rfl rfl (take_ofW HT_.out HW_.out (by kernel_rfl)) (fun _ _ _ h => h) (Or.inl ⟨by rfl, ?_⟩) hHeld ?_ ?_
  rotate_left
  · rintro w' ⟨s0, s1, s2, s3, s4, s5, s6, s7, s8, s9, s10, s11⟩
    go_simp
    with_reducible rfl
  rotate_left
  · simp only [Act.put, List.setIfInBounds_toArray, List.set_cons_zero, List.set_cons_succ, i64_w, i32_w]
    rfl
  refine take_ (i := 28) (N := some 33) (v := ?_) (a' := ?_) #[true, true, true, true, false, true, true, true, true, false, true, true, true, true, false, true, true, true, true, false, true, true, true, true, false, true, true, true, true, false, false, false, false] rfl rfl (take_ofW HT_.out HW_.out (by kernel_rfl)) (fun _ _ _ h => h) (Or.inl ⟨by rfl, ?_⟩) hHeld ?_ ?_
  rotate_left
  · rintro w' ⟨s0, s1, s2, s3, s4, s5, s6, s7, s8, s9, s10, s11⟩
    go_simp
    with_reducible rfl
  rotate_left
  · simp only [Act.put, List.setIfInBounds_toArray, List.set_cons_zero, List.set_cons_succ, i64_w, i32_w]
    rfl
  refine one_ (i := 4) (N := some 9) #[true, true, true, true, true, true, true, true, true, false, true, true, true, true, false, true, true, true, true, false, true, true, true, true, false, true, true, true, true, false, false, false, false] rfl rfl (one_of HT_.out (by kernel_rfl)) (by decide) (fun K hK => ?_)
  refine goes_ Try.func64 (by kernel_rfl) rfl #[.int .i64 a0_2, .int .i64 a1_2] (by rfl) rfl rfl (by (try simp only [List.map_toArray, List.map_cons, List.map_nil]); first | done | rfl | (simp only [List.length_drop, List.length_take]; rfl)) ?_
  with_reducible refine (cmp_Compare_int.calls a0_2 a1_2 t129 _ A3.out).mono ?_
  rintro e w' ⟨rfl, ⟨nd, rfl⟩⟩
  refine ⟨_, rfl, ?_⟩
  refine hK.out _ _ ⟨(blk_cell BK127.out 0).trans rfl, (blk_cell BK127.out 1).trans rfl, (blk_cell BK127.out 2).trans rfl, (blk_cell BK127.out 3).trans rfl, (blk_cell BK127.out 4).trans rfl, (blk_cell BK127.out 5).trans rfl, (blk_cell BK128.out 0).trans rfl, (blk_cell BK128.out 1).trans rfl, (blk_cell BK128.out 2).trans rfl, (blk_cell BK128.out 3).trans rfl, (blk_cell BK128.out 4).trans rfl, (blk_cell BK128.out 5).trans rfl⟩ (fun hHeld => ?_)
  clear hK K
  refine norm_ (a' := ?_) ?_ ?_
  rotate_left
  · show Act.put _ (some 9) _ = _
    simp only [Act.put, List.setIfInBounds_toArray, List.set_cons_zero, List.set_cons_succ, i64_w, i32_w]
    rfl
  refine one_ (i := 9) (N := some 14) #[true, true, true, true, true, true, true, true, true, true, true, true, true, true, false, true, true, true, true, false, true, true, true, true, false, true, true, true, true, false, false, false, false] rfl rfl (one_of HT_.out (by kernel_rfl)) (by decide) (fun K hK => ?_)
  refine goes_ Try.func64 (by kernel_rfl) rfl #[.int .i64 a0_0, .int .i64 a1_0] (by rfl) rfl rfl (by (try simp only [List.map_toArray, List.map_cons, List.map_nil]); first | done | rfl | (simp only [List.length_drop, List.length_take]; rfl)) ?_
  with_reducible refine (cmp_Compare_int.calls a0_0 a1_0 t130 _ A4.out).mono ?_
  rintro e w' ⟨rfl, ⟨nd, rfl⟩⟩
  refine ⟨_, rfl, ?_⟩
  refine hK.out _ _ ⟨(blk_cell BK127.out 0).trans rfl, (blk_cell BK127.out 1).trans rfl, (blk_cell BK127.out 2).trans rfl, (blk_cell BK127.out 3).trans rfl, (blk_cell BK127.out 4).trans rfl, (blk_cell BK127.out 5).trans rfl, (blk_cell BK128.out 0).trans rfl, (blk_cell BK128.out 1).trans rfl, (blk_cell BK128.out 2).trans rfl, (blk_cell BK128.out 3).trans rfl, (blk_cell BK128.out 4).trans rfl, (blk_cell BK128.out 5).trans rfl⟩ (fun hHeld => ?_)
  clear hK K
  refine norm_ (a' := ?_) ?_ ?_
  rotate_left
  · show Act.put _ (some 14) _ = _
    simp only [Act.put, List.setIfInBounds_toArray, List.set_cons_zero, List.set_cons_succ, i64_w, i32_w]
    rfl
  refine one_ (i := 14) (N := some 19) #[true, true, true, true, true, true, true, true, true, true, true, true, true, true, true, true, true, true, true, false, true, true, true, true, false, true, true, true, true, false, false, false, false] rfl rfl (one_of HT_.out (by kernel_rfl)) (by decide) (fun K hK => ?_)
  refine goes_ Try.func64 (by kernel_rfl) rfl #[.int .i64 a0_1, .int .i64 a1_1] (by rfl) rfl rfl (by (try simp only [List.map_toArray, List.map_cons, List.map_nil]); first | done | rfl | (simp only [List.length_drop, List.length_take]; rfl)) ?_
  with_reducible refine (cmp_Compare_int.calls a0_1 a1_1 t131 _ A5.out).mono ?_
  rintro e w' ⟨rfl, ⟨nd, rfl⟩⟩
  refine ⟨_, rfl, ?_⟩
  refine hK.out _ _ ⟨(blk_cell BK127.out 0).trans rfl, (blk_cell BK127.out 1).trans rfl, (blk_cell BK127.out 2).trans rfl, (blk_cell BK127.out 3).trans rfl, (blk_cell BK127.out 4).trans rfl, (blk_cell BK127.out 5).trans rfl, (blk_cell BK128.out 0).trans rfl, (blk_cell BK128.out 1).trans rfl, (blk_cell BK128.out 2).trans rfl, (blk_cell BK128.out 3).trans rfl, (blk_cell BK128.out 4).trans rfl, (blk_cell BK128.out 5).trans rfl⟩ (fun hHeld => ?_)
  clear hK K
  refine norm_ (a' := ?_) ?_ ?_
  rotate_left
  · show Act.put _ (some 19) _ = _
    simp only [Act.put, List.setIfInBounds_toArray, List.set_cons_zero, List.set_cons_succ, i64_w, i32_w]
    rfl
  refine one_ (i := 19) (N := some 24) #[true, true, true, true, true, true, true, true, true, true, true, true, true, true, true, true, true, true, true, true, true, true, true, true, false, true, true, true, true, false, false, false, false] rfl rfl (one_of HT_.out (by kernel_rfl)) (by decide) (fun K hK => ?_)
  refine goes_ Try.func103 (by kernel_rfl) rfl #[.string a0_3, .string a1_3] (by rfl) rfl rfl (by (try simp only [List.map_toArray, List.map_cons, List.map_nil]); first | done | rfl | (simp only [List.length_drop, List.length_take]; rfl)) ?_
  with_reducible refine (cmp_Compare_string.calls a0_3 a1_3 t132 _ A6.out).mono ?_
  rintro e w' ⟨rfl, ⟨nd, rfl⟩⟩
  refine ⟨_, rfl, ?_⟩
  refine hK.out _ _ ⟨(blk_cell BK127.out 0).trans rfl, (blk_cell BK127.out 1).trans rfl, (blk_cell BK127.out 2).trans rfl, (blk_cell BK127.out 3).trans rfl, (blk_cell BK127.out 4).trans rfl, (blk_cell BK127.out 5).trans rfl, (blk_cell BK128.out 0).trans rfl, (blk_cell BK128.out 1).trans rfl, (blk_cell BK128.out 2).trans rfl, (blk_cell BK128.out 3).trans rfl, (blk_cell BK128.out 4).trans rfl, (blk_cell BK128.out 5).trans rfl⟩ (fun hHeld => ?_)
  clear hK K
  refine norm_ (a' := ?_) ?_ ?_
  rotate_left
  · show Act.put _ (some 24) _ = _
    simp only [Act.put, List.setIfInBounds_toArray, List.set_cons_zero, List.set_cons_succ, i64_w, i32_w]
    rfl
  refine one_ (i := 24) (N := some 29) #[true, true, true, true, true, true, true, true, true, true, true, true, true, true, true, true, true, true, true, true, true, true, true, true, true, true, true, true, true, false, false, false, false] rfl rfl (one_of HT_.out (by kernel_rfl)) (by decide) (fun K hK => ?_)
  refine goes_ Try.func103 (by kernel_rfl) rfl #[.string a0_4, .string a1_4] (by rfl) rfl rfl (by (try simp only [List.map_toArray, List.map_cons, List.map_nil]); first | done | rfl | (simp only [List.length_drop, List.length_take]; rfl)) ?_
  with_reducible refine (cmp_Compare_string.calls a0_4 a1_4 t133 _ A7.out).mono ?_
  rintro e w' ⟨rfl, ⟨nd, rfl⟩⟩
  refine ⟨_, rfl, ?_⟩
  refine hK.out _ _ ⟨(blk_cell BK127.out 0).trans rfl, (blk_cell BK127.out 1).trans rfl, (blk_cell BK127.out 2).trans rfl, (blk_cell BK127.out 3).trans rfl, (blk_cell BK127.out 4).trans rfl, (blk_cell BK127.out 5).trans rfl, (blk_cell BK128.out 0).trans rfl, (blk_cell BK128.out 1).trans rfl, (blk_cell BK128.out 2).trans rfl, (blk_cell BK128.out 3).trans rfl, (blk_cell BK128.out 4).trans rfl, (blk_cell BK128.out 5).trans rfl⟩ (fun hHeld => ?_)
  clear hK K
  refine norm_ (a' := ?_) ?_ ?_
  rotate_left
  · show Act.put _ (some 29) _ = _
    simp only [Act.put, List.setIfInBounds_toArray, List.set_cons_zero, List.set_cons_succ, i64_w, i32_w]
    rfl
  refine one_ (i := 29) (N := some 34) #[true, true, true, true, true, true, true, true, true, true, true, true, true, true, true, true, true, true, true, true, true, true, true, true, true, true, true, true, true, true, false, false, false] rfl rfl (one_of HT_.out (by kernel_rfl)) (by decide) (fun K hK => ?_)
  refine goes_ Try.func103 (by kernel_rfl) rfl #[.string a0_5, .string a1_5] (by rfl) rfl rfl (by (try simp only [List.map_toArray, List.map_cons, List.map_nil]); first | done | rfl | (simp only [List.length_drop, List.length_take]; rfl)) ?_
  with_reducible refine (cmp_Compare_string.calls a0_5 a1_5 t134 _ A8.out).mono ?_
  rintro e w' ⟨rfl, ⟨nd, rfl⟩⟩
  refine ⟨_, rfl, ?_⟩
  refine hK.out _ _ ⟨(blk_cell BK127.out 0).trans rfl, (blk_cell BK127.out 1).trans rfl, (blk_cell BK127.out 2).trans rfl, (blk_cell BK127.out 3).trans rfl, (blk_cell BK127.out 4).trans rfl, (blk_cell BK127.out 5).trans rfl, (blk_cell BK128.out 0).trans rfl, (blk_cell BK128.out 1).trans rfl, (blk_cell BK128.out 2).trans rfl, (blk_cell BK128.out 3).trans rfl, (blk_cell BK128.out 4).trans rfl, (blk_cell BK128.out 5).trans rfl⟩ (fun hHeld => ?_)
  clear hK K
  refine norm_ (a' := ?_) ?_ ?_
  rotate_left
  · show Act.put _ (some 34) _ = _
    simp only [Act.put, List.setIfInBounds_toArray, List.set_cons_zero, List.set_cons_succ, i64_w, i32_w]
    rfl
  refine one_ (i := 30) (N := some 35) #[true, true, true, true, true, true, true, true, true, true, true, true, true, true, true, true, true, true, true, true, true, true, true, true, true, true, true, true, true, true, true, false, false] rfl rfl (one_of HT_.out (by kernel_rfl)) (by decide) (fun K hK => ?_)
  refine Kd.R_lit_step (Kd.int .i64) _ 3 ?hg (N := 35) ?hd (xs := ([t129, t130, t131, t132, t133, t134] : List Int)) (inner := [.int .i64 t129, .int .i64 t130, .int .i64 t131, .int .i64 t132, .int .i64 t133, .int .i64 t134]) (ok := fun _ => True) (okp := fun _ => True) ?hr ?hp (fun _ hk => hk) trivial (Below.refl _ _) (Nat.le_refl _) (by simp) ?_; (case hd => rfl); (case hg => rfl); (case hr => first | (go_simp; done) | (go_simp; rfl)); (case hp => exact (Reps.one (show Kd.M (Kd.int .i64) _ _ _ t129 [.int .i64 t129] from rfl) (Reps.one (show Kd.M (Kd.int .i64) _ _ _ t130 [.int .i64 t130] from rfl) (Reps.one (show Kd.M (Kd.int .i64) _ _ _ t131 [.int .i64 t131] from rfl) (Reps.one (show Kd.M (Kd.int .i64) _ _ _ t132 [.int .i64 t132] from rfl) (Reps.one (show Kd.M (Kd.int .i64) _ _ _ t133 [.int .i64 t133] from rfl) (Reps.one (show Kd.M (Kd.int .i64) _ _ _ t134 [.int .i64 t134] from rfl) (Reps.none _ _))))))))
  intro v136 w13 ho14 hb hg_ hnew_
  clear hg_ hnew_
  (first | rw [← Ny135.out] at ho14 | (simp only [Int.reduceToNat] at ho14; rw [← Ny135.out] at ho14))
  have n0_ := Aside0.mk (Kd.R_lower ho14 (below_size (by repeat (first | (with_reducible first | exact HB.out | apply below_alloc | apply pw_below_drewN | apply below_drew1 | refine below_set ?_ GE127.out | refine below_set ?_ GE128.out) | exact HB.out))))
  have n1_ := Aside0.mk (blk_below (g := gb127) (o := .cells #[.int .i64 a0_0, .int .i64 a0_1, .int .i64 a0_2, .string a0_3, .string a0_4, .string a0_5] 100 (0, 0)) (by (with_reducible repeat (first | refine blk_drewN ?_ _ | refine blk_drew ?_ | refine blk_alloc ?_ _)); exact BK127.out) hb)
  have n2_ := Aside0.mk (blk_below (g := gb128) (o := .cells #[.int .i64 a1_0, .int .i64 a1_1, .int .i64 a1_2, .string a1_3, .string a1_4, .string a1_5] 100 (0, 0)) (by (with_reducible repeat (first | refine blk_drewN ?_ _ | refine blk_drew ?_ | refine blk_alloc ?_ _)); exact BK128.out) hb)
  have n3_ := Aside0.mk (below_step (by repeat (first | (with_reducible first | exact HB.out | apply below_alloc | apply pw_below_drewN | apply below_drew1 | refine below_set ?_ GE127.out | refine below_set ?_ GE128.out) | exact HB.out)) hb)
  clear BK127
  clear BK128
  clear HB
  have HO137 := n0_
  have BK127 := n1_
  have BK128 := n2_
  have HB := n3_
  clear n0_ n1_ n2_ n3_
  clear hb ho14
  obtain ⟨Ao15, co15, eo15⟩ := Kd.R_slice HO137.out
  (first | subst eo15 | (injection eo15 with f1_ f2_ f3_; have f4_ := f1_.symm; have f5_ := f3_.symm; clear f1_ f2_ f3_; subst f4_; subst f5_))
  refine hK.out _ _ ⟨(blk_cell BK127.out 0).trans rfl, (blk_cell BK127.out 1).trans rfl, (blk_cell BK127.out 2).trans rfl, (blk_cell BK127.out 3).trans rfl, (blk_cell BK127.out 4).trans rfl, (blk_cell BK127.out 5).trans rfl, (blk_cell BK128.out 0).trans rfl, (blk_cell BK128.out 1).trans rfl, (blk_cell BK128.out 2).trans rfl, (blk_cell BK128.out 3).trans rfl, (blk_cell BK128.out 4).trans rfl, (blk_cell BK128.out 5).trans rfl⟩ (fun hHeld => ?_)
  clear hK K
  refine norm_ (a' := ?_) ?_ ?_
  rotate_left
  · show Act.put _ (some 35) _ = _
    simp only [Act.put, List.setIfInBounds_toArray, List.set_cons_zero, List.set_cons_succ, i64_w, i32_w]
    rfl
  refine one_ (i := 31) (N := some 36) #[true, true, true, true, true, true, true, true, true, true, true, true, true, true, true, true, true, true, true, true, true, true, true, true, true, true, true, true, true, true, true, true, false] rfl rfl (one_of HT_.out (by kernel_rfl)) (by decide) (fun K hK => ?_)
  refine goes_ Try.func63 (by kernel_rfl) rfl #[.slice Ao15 y135.length co15] (by rfl) rfl rfl (by (try simp only [List.map_toArray, List.map_cons, List.map_nil]); first | done | rfl | (simp only [List.length_drop, List.length_take]; rfl)) ?_
  with_reducible refine (cmp_Or_int.calls k _ _ y135 t138 _ ?side1 ?side2 A9.out).mono ?_
  (case side1 => repeat (first | exact (Kd.R_reads' HO137.out).2.2 | (with_reducible refine Kd.C_alloc ?_ _) | (with_reducible refine Kd.C_drewN ?_ _) | (with_reducible refine Kd.C_drew ?_)))
  (case side2 => exact (Kd.R_reads' HO137.out).2.1)
  rintro e w' ⟨rfl, ⟨nd, rfl⟩⟩
  refine ⟨_, rfl, ?_⟩
  refine hK.out _ _ ⟨(blk_cell BK127.out 0).trans rfl, (blk_cell BK127.out 1).trans rfl, (blk_cell BK127.out 2).trans rfl, (blk_cell BK127.out 3).trans rfl, (blk_cell BK127.out 4).trans rfl, (blk_cell BK127.out 5).trans rfl, (blk_cell BK128.out 0).trans rfl, (blk_cell BK128.out 1).trans rfl, (blk_cell BK128.out 2).trans rfl, (blk_cell BK128.out 3).trans rfl, (blk_cell BK128.out 4).trans rfl, (blk_cell BK128.out 5).trans rfl⟩ (fun hHeld => ?_)
  clear hK K
  refine norm_ (a' := ?_) ?_ ?_
  rotate_left
  · show Act.put _ (some 36) _ = _
    simp only [Act.put, List.setIfInBounds_toArray, List.set_cons_zero, List.set_cons_succ, i64_w, i32_w]
    rfl
  refine pu_ 32 (some 4) (bq 33 8589934591) HT_ rfl rfl ?_
  refine done_ (done_of HT_.out (by kernel_rfl)) ?_
  try go_wp2
  go_ret
  exact ⟨by first | rfl | (simp [errW_none, errW_some] <;> rfl) | (simp [*, errW_none, errW_some] <;> rfl), by repeat (first | (with_reducible first | exact HB.out | apply below_alloc | apply pw_below_drewN | apply below_drew1 | refine below_set ?_ GE127.out | refine below_set ?_ GE128.out) | exact HB.out)⟩
end Go.Proofs.Ytdadnapfecmmdaa.P
namespace Go.Proofs.Ytdadnapfecmmdaa.P
set_option linter.unusedVariables false
set_option linter.unusedSimpArgs false
open Go.RowKit Go.Proofs.YtdadnapfecmmdaaW.PrintWords Go.Proofs.YtdadnapfecmmdaaW.PrintLast Go.Proofs.YtdadnapfecmmdaaW.PrintMore
open Go.Proofs.Ytdadnapfecmmdaa.Hm
theorem within_total (s : ByteArray) (lo hi : Int) (hn : s.size ≤ 64) (d : Nat) : ∀ (k : Nat) (i : Int), 0 ≤ i → i ≤ s.size → (s.size : Int) - i = d → d < k → ∃ b, attribute_within.l0 k s lo hi (s.size : Int) i = some b := by
  induction d with
  | zero =>
    intro k i h0 h1 hd hk
    obtain ⟨k, rfl⟩ : ∃ m, k = m + 1 := ⟨k - 1, by omega⟩
    exact ⟨true, by simp only [attribute_within.l0]; rw [if_neg (by omega)]⟩
  | succ d ih =>
    intro k i h0 h1 hd hk
    obtain ⟨k, rfl⟩ : ∃ m, k = m + 1 := ⟨k - 1, by omega⟩
    obtain ⟨b, hb⟩ := ih k (i + 1) (by omega) (by omega) (by omega) (by omega)
    have hw : wrap64 (i + 1) = i + 1 := by unfold wrap64; omega
    simp only [attribute_within.l0]
    rw [if_pos (by omega), if_pos h0, if_pos (by omega), hw, hb]
    split
    · exact ⟨_, rfl⟩
    · split
      · exact ⟨_, rfl⟩
      · exact ⟨_, rfl⟩
theorem isName_total (s : ByteArray) : ∃ b, ∀ k, attribute_IsName.f (k + 70) s = some b := by
  by_cases h1 : s.toList = []
  · exact ⟨false, fun k => by unfold attribute_IsName.f; rw [if_pos h1]⟩
  · by_cases h2 : (s.size : Int) ≤ 64
    · obtain ⟨b, hb⟩ := within_total s 33 126 (by omega) s.size 70 0 (by omega) (by omega) (by omega) (by omega)
      refine ⟨b, fun k => ?_⟩
      have hm : ∀ k, attribute_within.l0 (k + 70) s 33 126 (s.size : Int) 0 = some b := by
        intro k
        induction k with
        | zero => exact hb
        | succ k ih =>
          have := attribute_within.mono_l (k + 70) s 33 126 (s.size : Int) 0 b ih
          rw [show k + 1 + 70 = k + 70 + 1 from by omega]
          exact this
      unfold attribute_IsName.f attribute_within.f
      rw [if_neg h1, if_pos h2, hm k]
      rfl
    · exact ⟨false, fun k => by unfold attribute_IsName.f; rw [if_neg h1, if_neg h2]⟩
def Tot {α : Type} (o : Option α) : Prop := ∃ r, o = some r
theorem Tot.some {α : Type} (r : α) : Tot (some r) := ⟨r, rfl⟩
theorem Tot.ite {α : Type} {c : Prop} [Decidable c] {a b : Option α} (ha : Tot a) (hb : Tot b) : Tot (if c then a else b) := by
  by_cases h : c
  · rw [if_pos h]; exact ha
  · rw [if_neg h]; exact hb
theorem Tot.bind {α β : Type} {a : Option α} {f : α → Option β} (ha : Tot a) (hf : ∀ r, Tot (f r)) : Tot (a.bind f) := by
  obtain ⟨r, rfl⟩ := ha
  exact hf r
theorem isName_tot (k : Nat) (s : ByteArray) : Tot (attribute_IsName.f (k + 70) s) := by
  obtain ⟨b, h⟩ := isName_total s
  exact ⟨b, h k⟩
theorem checkOne_total (c : S100) : Tot (deployment_checkOne.f (((((5 + 70) + 1) + 1) + 1) + 1) c.f0 c.f1 c.f2 c.f3 c.f4 c.f5) := by
  have j3 : ∀ a b t x0 x1 x2 x3 x4 x5, Tot (deployment_checkOne.j3 ((5 + 70) + 1) a b t x0 x1 x2 x3 x4 x5) := fun a b t x0 x1 x2 x3 x4 x5 => by
    rw [deployment_checkOne.j3]
    exact Tot.ite (Tot.some _) (Tot.bind (isName_tot 5 _) fun r => Tot.ite (Tot.ite (Tot.bind (isName_tot 5 _) fun r => Tot.ite (Tot.some _) (Tot.some _)) (Tot.some _)) (Tot.some _))
  have j2 : ∀ a b t x0 x1 x2 x3 x4 x5, Tot (deployment_checkOne.j2 (((5 + 70) + 1) + 1) a b t x0 x1 x2 x3 x4 x5) := fun a b t x0 x1 x2 x3 x4 x5 => by
    rw [deployment_checkOne.j2]
    exact Tot.ite (Tot.some _) (Tot.ite (j3 _ _ _ _ _ _ _ _ _) (j3 _ _ _ _ _ _ _ _ _))
  have j1 : ∀ a b t x0 x1 x2 x3 x4 x5, Tot (deployment_checkOne.j1 ((((5 + 70) + 1) + 1) + 1) a b t x0 x1 x2 x3 x4 x5) := fun a b t x0 x1 x2 x3 x4 x5 => by
    rw [deployment_checkOne.j1]
    exact Tot.ite (Tot.some _) (Tot.ite (j2 _ _ _ _ _ _ _ _ _) (j2 _ _ _ _ _ _ _ _ _))
  have j0 : ∀ a b x0 x1 x2 x3 x4 x5, Tot (deployment_checkOne.j0 (((((5 + 70) + 1) + 1) + 1) + 1) a b x0 x1 x2 x3 x4 x5) := fun a b x0 x1 x2 x3 x4 x5 => by
    rw [deployment_checkOne.j0]
    exact Tot.ite (j1 _ _ _ _ _ _ _ _ _) (j1 _ _ _ _ _ _ _ _ _)
  unfold deployment_checkOne.f
  exact Tot.ite (j0 _ _ _ _ _ _ _ _) (j0 _ _ _ _ _ _ _ _)
def chkOne (c : S100) : Int := (deployment_checkOne.f (((((5 + 70) + 1) + 1) + 1) + 1) c.f0 c.f1 c.f2 c.f3 c.f4 c.f5).getD 0
theorem chkOne_some (c : S100) : deployment_checkOne.f (((((5 + 70) + 1) + 1) + 1) + 1) c.f0 c.f1 c.f2 c.f3 c.f4 c.f5 = some (chkOne c) := by
  obtain ⟨r, h⟩ := checkOne_total c
  unfold chkOne
  rw [h]
  rfl
theorem or_total (l : List Int) (hn : l.length ≤ 6) (d : Nat) : ∀ (k : Nat) (i : Int), 0 ≤ i → i ≤ l.length → (l.length : Int) - i = d → d < k → ∃ b, cmp_Or_int.l0 k 0 l (l.length : Int) i = some b := by
  induction d with
  | zero =>
    intro k i h0 h1 hd hk
    obtain ⟨k, rfl⟩ : ∃ m, k = m + 1 := ⟨k - 1, by omega⟩
    exact ⟨0, by simp only [cmp_Or_int.l0]; rw [if_neg (by omega)]⟩
  | succ d ih =>
    intro k i h0 h1 hd hk
    obtain ⟨k, rfl⟩ : ∃ m, k = m + 1 := ⟨k - 1, by omega⟩
    obtain ⟨b, hb⟩ := ih k (i + 1) (by omega) (by omega) (by omega) (by omega)
    have hw : wrap64 (i + 1) = i + 1 := by unfold wrap64; omega
    simp only [cmp_Or_int.l0]
    rw [if_pos (by omega), if_pos h0, if_pos (by omega), hw, hb]
    split
    · exact ⟨_, rfl⟩
    · exact ⟨_, rfl⟩
theorem cmpInt_total (a b : Int) : ∃ r, cmp_Compare_int.f a b = some r := by
  unfold cmp_Compare_int.f cmp_isNaN_int.f
  simp only [Option.bind_some]
  (repeat' split) <;> exact ⟨_, rfl⟩
theorem chgCmp_total (a b : S100) : ∃ r, deployment_Compare.f 10 a.f0 a.f1 a.f2 a.f3 a.f4 a.f5 b.f0 b.f1 b.f2 b.f3 b.f4 b.f5 = some r := by
  unfold deployment_Compare.f
  obtain ⟨r0, h0⟩ := cmpInt_total a.f2 b.f2
  obtain ⟨r1, h1⟩ := cmpInt_total a.f0 b.f0
  obtain ⟨r2, h2⟩ := cmpInt_total a.f1 b.f1
  rw [h0, h1, h2]
  simp only [Option.bind_some, cmp_Compare_string.f]
  obtain ⟨r, h⟩ := or_total [r0, r1, r2, cmpStr a.f3 b.f3, cmpStr a.f4 b.f4, cmpStr a.f5 b.f5] (by simp) 6 10 0 (by omega) (by simp) (by simp) (by omega)
  unfold cmp_Or_int.f
  rw [h]
  exact ⟨_, rfl⟩
def chgCmp (a b : S100) : Int := (deployment_Compare.f 10 a.f0 a.f1 a.f2 a.f3 a.f4 a.f5 b.f0 b.f1 b.f2 b.f3 b.f4 b.f5).getD 0
theorem chgCmp_some (a b : S100) : deployment_Compare.f 10 a.f0 a.f1 a.f2 a.f3 a.f4 a.f5 b.f0 b.f1 b.f2 b.f3 b.f4 b.f5 = some (chgCmp a b) := by
  obtain ⟨r, h⟩ := chgCmp_total a b
  unfold chgCmp
  rw [h]
  rfl
def depCk (l : List S100) : List (Int × Bool) → Nat → Nat → Int
  | _, _, 0 => 0
  | m, i, n + 1 =>
    let c := rd_T100 l i
    if chkOne c ≠ 0 then chkOne c
    else if 0 < i ∧ chgCmp c (rd_T100 l ((i : Int) - 1)) < 0 then 8
    else if (mget m c.f0).getD false = true then 9
    else depCk l (mput m c.f0 true) (i + 1) n
def depCheck (l : List S100) : Int := if l.length > 256 then 6 else depCk l [] 0 l.length
theorem zero4 : ∀ w : World, (zeroValue 4).run Try.prog w = .ok (.bool false) w := fun _ => by kernel_rfl
theorem match_bool {α : Type} [DecidableEq α] (m : List (α × Bool)) (x : α) : ((mget m x).elim (Value.bool false) Value.bool) = Value.bool ((mget m x).getD false) := by
  cases mget m x <;> rfl
theorem checkOne_calls (c : S100) (w : World) : Calls Try.prog 77 #[.agg #[.int .i64 c.f0, .int .i64 c.f1, .int .i64 c.f2, .string c.f3, .string c.f4, .string c.f5]] w fun e w' => e = .returned (.int .i64 (chkOne c)) ∧ Below w.heap.size w w' :=
  deployment_checkOne.calls _ _ _ _ _ _ _ _ w (chkOne_some c)
theorem chgCmp_calls (a b : S100) (w : World) : Calls Try.prog 78 #[.agg #[.int .i64 a.f0, .int .i64 a.f1, .int .i64 a.f2, .string a.f3, .string a.f4, .string a.f5], .agg #[.int .i64 b.f0, .int .i64 b.f1, .int .i64 b.f2, .string b.f3, .string b.f4, .string b.f5]] w fun e w' => e = .returned (.int .i64 (chgCmp a b)) ∧ Below w.heap.size w w' :=
  deployment_Compare.calls _ _ _ _ _ _ _ _ _ _ _ _ _ _ w (chgCmp_some a b)
theorem rd_T100_get (xs : List S100) (k : Nat) (h : k < xs.length) : rd_T100 xs (k : Int) = xs[k] := by
  unfold rd_T100; simp [List.getD_eq_getElem?_getD, h]
set_option maxHeartbeats 4000000 in
set_option maxRecDepth 100000 in
theorem depCheck_calls (A : Option Addr) (cp : Nat) (l : List S100) (w : World) (hr : Kd.C k100 w A l.length l) :
    Calls Try.prog 50 #[.slice A l.length cp] w fun e w' => e = .returned (.int .i64 (depCheck l)) ∧ Below w.heap.size w w' := by
  have hbig : l.length ≤ 9223372036854775807 := hr.2.1
  have HR := Aside0.mk hr
  clear hr
  have hmm := @run_makeMap Try.prog
  by_cases hlen : (256 : Int) < (l.length : Int)
  · have EO : Aside0 (depCheck l = 6) := ⟨by unfold depCheck; rw [if_pos (by omega)]⟩
    go_enter Try.func50, Try.ntmps50
    go_wp2
    go_ret
    exact ⟨by rw [EO.out]; rfl, Below.refl _ _⟩
  · have EO : Aside0 (depCheck l = depCk l [] 0 l.length) := ⟨by unfold depCheck; rw [if_neg (by omega)]⟩
    go_enter Try.func50, Try.ntmps50
    go_wp2
    go_loopg [13] l.length (fun gg s13 wr => ∃ (i : Nat) (m : List (Int × Bool)), i ≤ l.length ∧ l.length - i ≤ gg ∧ s13 = .int .i64 i ∧ Aside0 (depCk l m i (l.length - i) = depCheck l) ∧ Aside0 (MapIs wr w.heap.size (Value.int .i64) Value.bool m) ∧ Aside0 (Below w.heap.size w wr))
    case atStart => exact ⟨0, [], Nat.zero_le _, by omega, by rfl, ⟨EO.out.symm⟩, ⟨MapIs.made _ _ _⟩, ⟨below_alloc (Below.refl _ _) _⟩⟩
    case round =>
      obtain ⟨i, m, hi, hg, rfl, HA, HM, HB⟩ := hrel
      by_cases hlt : i < l.length
      · have hil : (i : Int) < (l.length : Int) := by omega
        have hA := HA.out
        rw [show l.length - i = (l.length - (i + 1)) + 1 from by omega] at hA
        unfold depCk at hA
        dsimp only at hA
        rw [rd_T100_get l i hlt] at hA
        obtain ⟨ad, e, h0, h1, h2, h3, h4, h5⟩ := at_T100 HR.out (i : Int) (by omega) (by omega)
        subst e
        rw [rd_T100_get l i hlt] at h0 h1 h2 h3 h4 h5
        simp only [Int.toNat_natCast] at h0 h1 h2 h3 h4 h5
        replace h0 := (HB.out.cell (World.block_lt_of_cell? w _ h0)).trans h0
        replace h1 := (HB.out.cell (World.block_lt_of_cell? w _ h1)).trans h1
        replace h2 := (HB.out.cell (World.block_lt_of_cell? w _ h2)).trans h2
        replace h3 := (HB.out.cell (World.block_lt_of_cell? w _ h3)).trans h3
        replace h4 := (HB.out.cell (World.block_lt_of_cell? w _ h4)).trans h4
        replace h5 := (HB.out.cell (World.block_lt_of_cell? w _ h5)).trans h5
        have hck := checkOne_calls l[i]
        have hcp := chgCmp_calls l[i] (rd_T100 l ((i : Int) - 1))
        have HX := Aside0.mk (rfl : l[i] = l[i])
        generalize l[i] = c at h0 h1 h2 h3 h4 h5 hA hck hcp
        clear HX
        have HC := Aside0.mk hck
        have HP := Aside0.mk hcp
        clear hck hcp
        by_cases k1 : chkOne c = 0
        · rw [if_neg (by simpa using k1)] at hA
          have k1b : (chkOne c != 0) = false := by simpa using k1
          clear k1
          go_wp2_with fail
          refine (HC.out _).mono ?_
          rintro e w1 ⟨rfl, hb1⟩
          have hz : wr.heap.size + 1 ≤ w1.heap.size := by have := hb1.size; simpa using this
          have q0 : w1.cell? ⟨wr.heap.size, 0, none⟩ = some (.int .i64 c.f0) := (hb1.cell (p := ⟨wr.heap.size, 0, none⟩) (by simp)).trans (by simp)
          have q1 : w1.cell? ⟨wr.heap.size, 1, none⟩ = some (.int .i64 c.f1) := (hb1.cell (p := ⟨wr.heap.size, 1, none⟩) (by simp)).trans (by simp)
          have q2 : w1.cell? ⟨wr.heap.size, 2, none⟩ = some (.int .i64 c.f2) := (hb1.cell (p := ⟨wr.heap.size, 2, none⟩) (by simp)).trans (by simp)
          have q3 : w1.cell? ⟨wr.heap.size, 3, none⟩ = some (.string c.f3) := (hb1.cell (p := ⟨wr.heap.size, 3, none⟩) (by simp)).trans (by simp)
          have q4 : w1.cell? ⟨wr.heap.size, 4, none⟩ = some (.string c.f4) := (hb1.cell (p := ⟨wr.heap.size, 4, none⟩) (by simp)).trans (by simp)
          have q5 : w1.cell? ⟨wr.heap.size, 5, none⟩ = some (.string c.f5) := (hb1.cell (p := ⟨wr.heap.size, 5, none⟩) (by simp)).trans (by simp)
          have HB1 := Aside0.mk (below_step (below_alloc HB.out _) hb1)
          have HM1 := Aside0.mk ((HM.out.alloc _).below hb1)
          clear HB HM h0 h1 h2 h3 h4 h5
          by_cases hi0 : 0 < i
          · obtain ⟨ad', e', p0, p1, p2, p3, p4, p5⟩ := at_T100 HR.out ((i : Int) - 1) (by omega) (by omega)
            cases e'
            generalize rd_T100 l ((i : Int) - 1) = cq at p0 p1 p2 p3 p4 p5 hA HP
            rw [show ((i : Int) - 1).toNat = i - 1 from by omega] at p0 p1 p2 p3 p4 p5
            replace p0 := (HB1.out.cell (World.block_lt_of_cell? w _ p0)).trans p0
            replace p1 := (HB1.out.cell (World.block_lt_of_cell? w _ p1)).trans p1
            replace p2 := (HB1.out.cell (World.block_lt_of_cell? w _ p2)).trans p2
            replace p3 := (HB1.out.cell (World.block_lt_of_cell? w _ p3)).trans p3
            replace p4 := (HB1.out.cell (World.block_lt_of_cell? w _ p4)).trans p4
            replace p5 := (HB1.out.cell (World.block_lt_of_cell? w _ p5)).trans p5
            have g0 : decide ((0 : Int) < (i : Int)) = true := by simpa using hi0
            go_wp2_with fail
            refine wp_region_still_tail 9 (by kernel_rfl) (by kernel_rfl) ?_
            rw [show ({ heap := w1.heap, tape := w1.tape, drawn := w1.drawn + 1, os := w1.os, output := w1.output } : World) = w1.drew from rfl]
            have hd : Below w1.heap.size w1 w1.drew := (Below.refl _ _).drew
            have hz2 : wr.heap.size + 1 ≤ w1.drew.heap.size := hz
            replace p0 := (hd.cell (World.block_lt_of_cell? w1 _ p0)).trans p0
            replace p1 := (hd.cell (World.block_lt_of_cell? w1 _ p1)).trans p1
            replace p2 := (hd.cell (World.block_lt_of_cell? w1 _ p2)).trans p2
            replace p3 := (hd.cell (World.block_lt_of_cell? w1 _ p3)).trans p3
            replace p4 := (hd.cell (World.block_lt_of_cell? w1 _ p4)).trans p4
            replace p5 := (hd.cell (World.block_lt_of_cell? w1 _ p5)).trans p5
            replace q0 := (hd.cell (World.block_lt_of_cell? w1 _ q0)).trans q0
            replace q1 := (hd.cell (World.block_lt_of_cell? w1 _ q1)).trans q1
            replace q2 := (hd.cell (World.block_lt_of_cell? w1 _ q2)).trans q2
            replace q3 := (hd.cell (World.block_lt_of_cell? w1 _ q3)).trans q3
            replace q4 := (hd.cell (World.block_lt_of_cell? w1 _ q4)).trans q4
            replace q5 := (hd.cell (World.block_lt_of_cell? w1 _ q5)).trans q5
            have HB2 := Aside0.mk (below_step HB1.out hd)
            have HM2 := Aside0.mk (HM1.out.below hd)
            clear HB1 HM1 hd hz hb1
            generalize w1.drew = W2 at *
            clear w1
            simp only [List.take_succ_cons, List.take_zero, List.drop_succ_cons, List.drop_zero]
            have s1 : IntKind.i64.wrap ((i : Int) - 1) = (i : Int) - 1 := IntWalk.i64_in _ (by omega)
            have s2 : (0 : Int) ≤ (i : Int) - 1 := by omega
            have s5 : (1 : Int) ≤ (i : Int) := by omega
            have s3 : ((i : Int) - 1).toNat = i - 1 := by omega
            have s4 : (i : Int) - 1 < (l.length : Int) := by omega
            repeat still_step
            refine wpStill_nil ?_
            clear s1 s2 s3 s4 s5
            by_cases k3 : chgCmp c cq < 0
            · rw [if_pos ⟨hi0, k3⟩] at hA
              have hA' := Aside0.mk hA
              clear hA
              go_wp2_with (go_at_call 78; refine (HP.out _).mono ?_; rintro e w2 ⟨rfl, hb2⟩)
              go_ret
              exact ⟨by rw [hA'.out]; rfl, below_step HB2.out hb2⟩
            · rw [if_neg (fun h => k3 h.2)] at hA
              by_cases k2 : (mget m c.f0).getD false = true
              · rw [if_pos k2] at hA
                have hA' := Aside0.mk hA
                clear hA
                go_wp2_with fail
                refine (HP.out _).mono ?_
                rintro e w2 ⟨rfl, hb2⟩
                have HB3 := Aside0.mk (below_step HB2.out hb2)
                have HM3 := Aside0.mk (HM2.out.below hb2)
                replace q0 := (hb2.cell (World.block_lt_of_cell? W2 _ q0)).trans q0
                go_wp2_with (first | (at_lookup; refine wp_look rfl _ _ rfl Try.underlying148 Try.underlying3 (enc_int .i64) HM3.out rfl _ rfl (zero4 _) ?_; rw [match_bool]))
                go_ret
                exact ⟨by rw [hA'.out]; rfl, HB3.out⟩
              · rw [if_neg k2] at hA
                have hA' := Aside0.mk hA
                clear hA
                replace k2 : (mget m c.f0).getD false = false := by simpa using k2
                go_wp2_with fail
                refine (HP.out _).mono ?_
                rintro e w2 ⟨rfl, hb2⟩
                have HB3 := Aside0.mk (below_step HB2.out hb2)
                have HM3 := Aside0.mk (HM2.out.below hb2)
                replace q0 := (hb2.cell (World.block_lt_of_cell? W2 _ q0)).trans q0
                go_wp2_with (first | (at_lookup; refine wp_look rfl _ _ rfl Try.underlying148 Try.underlying3 (enc_int .i64) HM3.out rfl _ rfl (zero4 _) ?_; rw [match_bool]) | (at_mapUpdate; refine wp_store rfl _ _ _ rfl Try.underlying148 Try.underlying3 (enc_int .i64) HM3.out rfl _ true rfl rfl ?_; intro w3 hm3 hg3))
                go_roundg (l.length - (i + 1))
                case measure => omega
                case rel => exact ⟨i + 1, mput m c.f0 true, by omega, Nat.le_refl _, by go_num, ⟨hA'.out⟩, ⟨hm3⟩, ⟨HB3.out.grown hg3 HB3.out.size (fun z hz => by simp at hz; omega)⟩⟩
          · rw [if_neg (fun h => hi0 h.1)] at hA
            have g0 : decide ((0 : Int) < (i : Int)) = false := by simpa using hi0
            by_cases k2 : (mget m c.f0).getD false = true
            · rw [if_pos k2] at hA
              have hA' := Aside0.mk hA
              clear hA
              go_wp2_with fail
              go_quiet (fail)
              go_wp2_with (first | (at_lookup; refine wp_look rfl _ _ rfl Try.underlying148 Try.underlying3 (enc_int .i64) HM1.out rfl _ rfl (zero4 _) ?_; rw [match_bool]))
              go_ret
              exact ⟨by rw [hA'.out]; rfl, pw_below_drewN HB1.out _⟩
            · rw [if_neg k2] at hA
              have hA' := Aside0.mk hA
              clear hA
              replace k2 : (mget m c.f0).getD false = false := by simpa using k2
              go_wp2_with fail
              go_quiet (fail)
              go_wp2_with (first | (at_lookup; refine wp_look rfl _ _ rfl Try.underlying148 Try.underlying3 (enc_int .i64) HM1.out rfl _ rfl (zero4 _) ?_; rw [match_bool]) | (at_mapUpdate; refine wp_store rfl _ _ _ rfl Try.underlying148 Try.underlying3 (enc_int .i64) HM1.out rfl _ true rfl rfl ?_; intro w3 hm3 hg3))
              go_roundg (l.length - (i + 1))
              case measure => omega
              case rel => exact ⟨i + 1, mput m c.f0 true, by omega, Nat.le_refl _, by go_num, ⟨hA'.out⟩, ⟨hm3⟩, ⟨(pw_below_drewN HB1.out _).grown hg3 (pw_below_drewN HB1.out _).size (fun z hz => by simp at hz; omega)⟩⟩
        · rw [if_pos k1] at hA
          have hA' := Aside0.mk hA
          have k1b : (chkOne c != 0) = true := by simpa using k1
          clear hA k1
          go_wp2_with (go_at_call 77; refine (HC.out _).mono ?_; rintro e w1 ⟨rfl, hb1⟩)
          go_ret
          exact ⟨by rw [hA'.out]; rfl, below_step (below_alloc HB.out _) hb1⟩
      · obtain rfl : i = l.length := by omega
        have hA : Aside0 (depCheck l = 0) := ⟨by have := HA.out; rw [Nat.sub_self] at this; rw [← this]; rfl⟩
        go_wp2
        go_ret
        exact ⟨by rw [hA.out]; rfl, HB.out⟩
end Go.Proofs.Ytdadnapfecmmdaa.P
