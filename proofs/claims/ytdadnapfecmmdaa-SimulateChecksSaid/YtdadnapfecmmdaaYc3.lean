/- Own texts of a proof about layer 55's simulate (merged): Hc, PF103, PF78, Hm, Hd, He, Ha, Hb, Kp, PF52. -/
import Derived.Test.YtdadnapfecmmdaaYc0
import Derived.Test.YtdadnapfecmmdaaYc2
import Derived.WalkLawsBesides
import Derived.Maps.OwnSet
import Derived.Maps.OwnOps
import Derived.WalkKit
import Derived.StillTailTactics
namespace Go.Proofs.Ytdadnapfecmmdaa.P
set_option linter.unusedVariables false
set_option linter.unusedSimpArgs false
open Go.RowKit Go.Proofs.YtdadnapfecmmdaaW.PrintWords Go.Proofs.YtdadnapfecmmdaaW.PrintLast Go.Proofs.YtdadnapfecmmdaaW.PrintMore
def cmpStr (a b : ByteArray) : Int := if Op.bytesLess a.toList b.toList = true then -1 else if a.toList = b.toList then 0 else 1
theorem nan_calls (a : ByteArray) (w : World) : Calls Try.prog 127 #[.string a] w fun e w' => e = .returned (.bool false) ∧ w = w' := by
  go_enter Try.func127, Try.ntmps127
  go_wp2
  go_ret
  exact ⟨by simp, rfl⟩
theorem cmpStr_calls (a b : ByteArray) (w : World) : Calls Try.prog 103 #[.string a, .string b] w fun e w' => e = .returned (.int .i64 (cmpStr a b)) ∧ w = w' := by
  have EO : Aside0 (cmpStr a b = if Op.bytesLess a.toList b.toList = true then -1 else if a.toList = b.toList then 0 else 1) := ⟨rfl⟩
  by_cases h1 : Op.bytesLess a.toList b.toList = true
  · go_enter Try.func103, Try.ntmps103
    go_wp2_with fail
    refine (nan_calls _ _).mono ?_
    rintro e w' ⟨rfl, rfl⟩
    go_wp2_with fail
    refine (nan_calls _ _).mono ?_
    rintro e w' ⟨rfl, rfl⟩
    go_wp2_with fail
    go_ret
    exact ⟨by rw [EO.out, if_pos h1]; rfl, rfl⟩
  · replace h1 : Op.bytesLess a.toList b.toList = false := by simpa using h1
    by_cases h2 : a.toList = b.toList
    · have h3 : (a.toList == b.toList) = true := by simp [h2]
      have E2 := Aside0.mk h2
      clear h2
      go_enter Try.func103, Try.ntmps103
      go_wp2_with fail
      refine (nan_calls _ _).mono ?_
      rintro e w' ⟨rfl, rfl⟩
      go_wp2_with fail
      refine (nan_calls _ _).mono ?_
      rintro e w' ⟨rfl, rfl⟩
      go_wp2_with fail
      go_ret
      exact ⟨by rw [EO.out, if_neg (by rw [h1]; simp), if_pos E2.out]; rfl, rfl⟩
    · have h3 : (a.toList == b.toList) = false := by simp [h2]
      have E2 := Aside0.mk h2
      clear h2
      go_enter Try.func103, Try.ntmps103
      go_wp2_with fail
      refine (nan_calls _ _).mono ?_
      rintro e w' ⟨rfl, rfl⟩
      go_wp2_with fail
      refine (nan_calls _ _).mono ?_
      rintro e w' ⟨rfl, rfl⟩
      go_wp2_with fail
      go_ret
      exact ⟨by rw [EO.out, if_neg (by rw [h1]; simp), if_neg E2.out]; rfl, rfl⟩
end Go.Proofs.Ytdadnapfecmmdaa.P
namespace Go.Proofs.Ytdadnapfecmmdaa.P
open Go.RowKit Go.Proofs.YtdadnapfecmmdaaW.PrintWords Go.Proofs.YtdadnapfecmmdaaW.PrintLast Go.Proofs.YtdadnapfecmmdaaW.PrintMore
attribute [local go_sem] max2_int min2_int max_two min_two max_three min_three max_four min_four   -- for this text's walks alone
set_option linter.unusedVariables false
set_option linter.unusedSimpArgs false
def cmp_Compare_string.f (a0 : ByteArray) (a1 : ByteArray) : Option (Int) := some (cmpStr a0 a1)
theorem cmp_Compare_string.calls (a0 : ByteArray) (a1 : ByteArray) (r : Int) (w : World) (h : cmp_Compare_string.f a0 a1 = some r) :
    Calls Try.prog 103 #[.string a0, .string a1] w fun e w' => e = .returned (.int .i64 r) ∧ Drawn0 w w' := by
  obtain rfl := Option.some.inj h
  refine (cmpStr_calls a0 a1 w).mono ?_
  rintro e w' ⟨he, rfl⟩
  exact ⟨he, Drawn0.refl _⟩
def deployment_Compare.f (k : Nat) (a0_0 : Int) (a0_1 : Int) (a0_2 : Int) (a0_3 : ByteArray) (a0_4 : ByteArray) (a0_5 : ByteArray) (a1_0 : Int) (a1_1 : Int) (a1_2 : Int) (a1_3 : ByteArray) (a1_4 : ByteArray) (a1_5 : ByteArray) : Option (Int) := (cmp_Compare_int.f a0_2 a1_2).bind fun t129 => ((cmp_Compare_int.f a0_0 a1_0).bind fun t130 => ((cmp_Compare_int.f a0_1 a1_1).bind fun t131 => ((cmp_Compare_string.f a0_3 a1_3).bind fun t132 => ((cmp_Compare_string.f a0_4 a1_4).bind fun t133 => ((cmp_Compare_string.f a0_5 a1_5).bind fun t134 => ((cmp_Or_int.f k (([t129, t130, t131, t132, t133, t134] : List Int))).bind fun t138 => (some t138)))))))
theorem deployment_Compare.mono : ∀ a0 a1 a2 a3 a4 a5 a6 a7 a8 a9 a10 a11 k, LeO (deployment_Compare.f k a0 a1 a2 a3 a4 a5 a6 a7 a8 a9 a10 a11) (deployment_Compare.f (k + 1) a0 a1 a2 a3 a4 a5 a6 a7 a8 a9 a10 a11) := by
  intro a0 a1 a2 a3 a4 a5 a6 a7 a8 a9 a10 a11 k
  unfold deployment_Compare.f
  repeat' first
      | (with_reducible exact cmp_Or_int.mono _ _)
      | (with_reducible exact LeO.refl _)
      | (with_reducible exact LeO.none _)
      | (with_reducible refine LeO.ite ?_ ?_)
      | (with_reducible refine LeO.bind ?_ (fun _ => ?_))
      | exact cmp_Or_int.mono _ _
      | exact LeO.none _
      | refine LeO.ite ?_ ?_
      | refine LeO.bind ?_ (fun _ => ?_)
def deployment_Compare.T1 : Bool × List (List Nat × List Nat) := (true, [([], []), ([0], [0]), ([], []), ([2], [2]), ([1, 3], [1, 3]), ([], []), ([5], [5]), ([], []), ([7], [7]), ([6, 8, 4], [6, 8]), ([], []), ([10], [10]), ([], []), ([12], [12]), ([11, 13, 9], [11, 13]), ([], []), ([15], [15]), ([], []), ([17], [17]), ([16, 18, 14], [16, 18]), ([], []), ([20], [20]), ([], []), ([22], [22]), ([21, 23, 19], [21, 23]), ([], []), ([25], [25]), ([], []), ([27], [27]), ([26, 28, 24], [26, 28]), ([4, 9, 14, 19, 24, 29], [4, 9, 14, 19, 24, 29]), ([30, 29], [30]), ([31, 31, 0, 1, 2, 3, 4, 5, 6, 7, 8, 9, 10, 11, 12, 13, 14, 15, 16, 17, 18, 19, 20, 21, 22, 23, 24, 25, 26, 27, 28, 29, 30, 31], [31])])
def deployment_Compare.B1 : List Nat := [0, 1, 0, 4, 15, 0, 32, 0, 128, 511, 0, 1024, 0, 4096, 16383, 0, 32768, 0, 131072, 524287, 0, 1048576, 0, 4194304, 16777215, 0, 33554432, 0, 134217728, 536870911, 1073741823, 2147483647, 4294967295]
theorem deployment_Compare.tab1 : rtab .any (opsOf Try.f78 1) = deployment_Compare.T1 := by kernel_rfl
theorem deployment_Compare.bits1 : waitsOk deployment_Compare.T1.2 deployment_Compare.B1 = true := by kernel_rfl
set_option maxHeartbeats 8000000 in
set_option maxRecDepth 100000 in
theorem deployment_Compare.calls (k : Nat) (a0_0 : Int) (a0_1 : Int) (a0_2 : Int) (a0_3 : ByteArray) (a0_4 : ByteArray) (a0_5 : ByteArray) (a1_0 : Int) (a1_1 : Int) (a1_2 : Int) (a1_3 : ByteArray) (a1_4 : ByteArray) (a1_5 : ByteArray) (r : Int) (w : World) (h : deployment_Compare.f k a0_0 a0_1 a0_2 a0_3 a0_4 a0_5 a1_0 a1_1 a1_2 a1_3 a1_4 a1_5 = some r) :
    Calls Try.prog 78 #[.agg #[.int .i64 a0_0, .int .i64 a0_1, .int .i64 a0_2, .string a0_3, .string a0_4, .string a0_5], .agg #[.int .i64 a1_0, .int .i64 a1_1, .int .i64 a1_2, .string a1_3, .string a1_4, .string a1_5]] w fun e w' => e = .returned (.int .i64 r) ∧ Below w.heap.size w w' := by
  have hu100 := Try.underlying100
  have HB := Aside0.mk (Below.refl w.heap.size w)
  have H : ((cmp_Compare_int.f a0_2 a1_2).bind fun t129 => ((cmp_Compare_int.f a0_0 a1_0).bind fun t130 => ((cmp_Compare_int.f a0_1 a1_1).bind fun t131 => ((cmp_Compare_string.f a0_3 a1_3).bind fun t132 => ((cmp_Compare_string.f a0_4 a1_4).bind fun t133 => ((cmp_Compare_string.f a0_5 a1_5).bind fun t134 => ((cmp_Or_int.f k (([t129, t130, t131, t132, t133, t134] : List Int))).bind fun t138 => (some t138)))))))) = some r := h
  clear h
  replace H := Option.bind_eq_some_iff.mp H
  obtain ⟨t129, A30, H⟩ := H
  replace H : ((cmp_Compare_int.f a0_0 a1_0).bind fun t130 => ((cmp_Compare_int.f a0_1 a1_1).bind fun t131 => ((cmp_Compare_string.f a0_3 a1_3).bind fun t132 => ((cmp_Compare_string.f a0_4 a1_4).bind fun t133 => ((cmp_Compare_string.f a0_5 a1_5).bind fun t134 => ((cmp_Or_int.f k (([t129, t130, t131, t132, t133, t134] : List Int))).bind fun t138 => (some t138))))))) = some r := H
  have A3 := Aside0.mk A30
  clear A30
  replace H := Option.bind_eq_some_iff.mp H
  obtain ⟨t130, A40, H⟩ := H
  replace H : ((cmp_Compare_int.f a0_1 a1_1).bind fun t131 => ((cmp_Compare_string.f a0_3 a1_3).bind fun t132 => ((cmp_Compare_string.f a0_4 a1_4).bind fun t133 => ((cmp_Compare_string.f a0_5 a1_5).bind fun t134 => ((cmp_Or_int.f k (([t129, t130, t131, t132, t133, t134] : List Int))).bind fun t138 => (some t138)))))) = some r := H
  have A4 := Aside0.mk A40
  clear A40
  replace H := Option.bind_eq_some_iff.mp H
  obtain ⟨t131, A50, H⟩ := H
  replace H : ((cmp_Compare_string.f a0_3 a1_3).bind fun t132 => ((cmp_Compare_string.f a0_4 a1_4).bind fun t133 => ((cmp_Compare_string.f a0_5 a1_5).bind fun t134 => ((cmp_Or_int.f k (([t129, t130, t131, t132, t133, t134] : List Int))).bind fun t138 => (some t138))))) = some r := H
  have A5 := Aside0.mk A50
  clear A50
  replace H := Option.bind_eq_some_iff.mp H
  obtain ⟨t132, A60, H⟩ := H
  replace H : ((cmp_Compare_string.f a0_4 a1_4).bind fun t133 => ((cmp_Compare_string.f a0_5 a1_5).bind fun t134 => ((cmp_Or_int.f k (([t129, t130, t131, t132, t133, t134] : List Int))).bind fun t138 => (some t138)))) = some r := H
  have A6 := Aside0.mk A60
  clear A60
  replace H := Option.bind_eq_some_iff.mp H
  obtain ⟨t133, A70, H⟩ := H
  replace H : ((cmp_Compare_string.f a0_5 a1_5).bind fun t134 => ((cmp_Or_int.f k (([t129, t130, t131, t132, t133, t134] : List Int))).bind fun t138 => (some t138))) = some r := H
  have A7 := Aside0.mk A70
  clear A70
  replace H := Option.bind_eq_some_iff.mp H
  obtain ⟨t134, A80, H⟩ := H
  replace H : ((cmp_Or_int.f k (([t129, t130, t131, t132, t133, t134] : List Int))).bind fun t138 => (some t138)) = some r := H
  have A8 := Aside0.mk A80
  clear A80
  obtain ⟨y135, hy135⟩ : ∃ y_ : List Int, y_ = (([t129, t130, t131, t132, t133, t134] : List Int)) := ⟨_, rfl⟩
  replace H : ((cmp_Or_int.f k y135).bind fun t138 => (some t138)) = some r := by first | (rw [hy135]; with_reducible exact H) | (have H2_ := (Option.bind_some _ _).symm.trans H; rw [hy135]; with_reducible exact H2_) | (have H2_ := (Option.bind_some _ _).symm.trans H; with_reducible exact H2_) | with_reducible exact H | (rw [hy135]; exact H) | exact H
  have Ny135 := Aside0.mk hy135
  clear hy135
  replace H := Option.bind_eq_some_iff.mp H
  obtain ⟨t138, A90, H⟩ := H
  replace H : (some t138) = some r := H
  have A9 := Aside0.mk A90
  clear A90
  obtain rfl := Option.some.inj H
  go_enter Try.func78, Try.ntmps78
  try go_wp2_with (first | ((with_reducible refine gate_dst (N := 2) rfl ?_); refine box_event ?hg (N := 2) ?hd (cs := #[.int .i64 a0_0, .int .i64 a0_1, .int .i64 a0_2, .string a0_3, .string a0_4, .string a0_5]) (t := 100) ?hr ?_; (case hd => rfl); (case hg => rfl); (case hr => first | (go_simp; done) | (go_simp; rfl)); intro gb127 hg w10 hbox hb; have n0_ := Aside0.mk (below_step (by repeat (first | (with_reducible first | exact HB.out | apply below_alloc | apply pw_below_drewN | apply below_drew1) | exact HB.out)) hb); have n1_ := Aside0.mk (hbox); have n2_ := Aside0.mk ((by rw [hg]; exact (below_size (by repeat (first | (with_reducible first | exact HB.out | apply below_alloc | apply pw_below_drewN | apply below_drew1) | exact HB.out))) : w.heap.size ≤ gb127)); have n3_ := Aside0.mk ((by rw [hg]; exact (below_size (by repeat (first | (with_reducible first | exact HB.out | apply below_alloc | apply pw_below_drewN | apply below_drew1) | exact HB.out))) : w.heap.size ≤ gb127)); clear HB; have HB := n0_; have BK127 := n1_; have GW127 := n2_; have GE127 := n3_; clear n0_ n1_ n2_ n3_; clear hb hbox hg) | ((with_reducible refine gate_dst (N := 3) rfl ?_); refine box_event ?hg (N := 3) ?hd (cs := #[.int .i64 a1_0, .int .i64 a1_1, .int .i64 a1_2, .string a1_3, .string a1_4, .string a1_5]) (t := 100) ?hr ?_; (case hd => rfl); (case hg => rfl); (case hr => first | (go_simp; done) | (go_simp; rfl)); intro gb128 hg w11 hbox hb; have n0_ := Aside0.mk (blk_below (g := gb127) (o := .cells #[.int .i64 a0_0, .int .i64 a0_1, .int .i64 a0_2, .string a0_3, .string a0_4, .string a0_5] 100 (0, 0)) (by (with_reducible repeat (first | refine blk_drewN ?_ _ | refine blk_drew ?_ | refine blk_alloc ?_ _)); exact BK127.out) hb); have n1_ := Aside0.mk (below_step (by repeat (first | (with_reducible first | exact HB.out | apply below_alloc | apply pw_below_drewN | apply below_drew1 | refine below_set ?_ GE127.out) | exact HB.out)) hb); have n2_ := Aside0.mk (hbox); have n3_ := Aside0.mk ((by rw [hg]; exact (below_size (by repeat (first | (with_reducible first | exact HB.out | apply below_alloc | apply pw_below_drewN | apply below_drew1 | refine below_set ?_ GE127.out) | exact HB.out))) : w.heap.size ≤ gb128)); have n4_ := Aside0.mk ((by rw [hg]; exact (below_size (by repeat (first | (with_reducible first | exact HB.out | apply below_alloc | apply pw_below_drewN | apply below_drew1 | refine below_set ?_ GE127.out) | exact HB.out))) : w.heap.size ≤ gb128)); have n5_ := Aside0.mk ((by rw [hg]; exact Nat.ne_of_lt (blk_lt (g := gb127) (o := .cells #[.int .i64 a0_0, .int .i64 a0_1, .int .i64 a0_2, .string a0_3, .string a0_4, .string a0_5] 100 (0, 0)) (by (with_reducible repeat (first | refine blk_drewN ?_ _ | refine blk_drew ?_ | refine blk_alloc ?_ _)); exact BK127.out)) : gb127 ≠ gb128)); have n6_ := Aside0.mk ((by rw [hg]; exact Nat.ne_of_gt (blk_lt (g := gb127) (o := .cells #[.int .i64 a0_0, .int .i64 a0_1, .int .i64 a0_2, .string a0_3, .string a0_4, .string a0_5] 100 (0, 0)) (by (with_reducible repeat (first | refine blk_drewN ?_ _ | refine blk_drew ?_ | refine blk_alloc ?_ _)); exact BK127.out)) : gb128 ≠ gb127)); clear BK127; clear HB; have BK127 := n0_; have HB := n1_; have BK128 := n2_; have GW128 := n3_; have GE128 := n4_; have NB127_128 := n5_; have NB128_127 := n6_; clear n0_ n1_ n2_ n3_ n4_ n5_ n6_; clear hb hbox hg))
  have n0_ := Aside0.mk (blk_drew BK127.out)
  have n1_ := Aside0.mk (blk_drew BK128.out)
  have n2_ := Aside0.mk (below_drew1 HB.out)
  clear BK127
  clear BK128
  clear HB
  have BK127 := n0_
  have BK128 := n1_
  have HB := n2_
  clear n0_ n1_ n2_
  refine start_ (n := 33) (S := fun w' => w'.cell? ⟨gb127, 0, none⟩ = some (.int .i64 a0_0) ∧ w'.cell? ⟨gb127, 1, none⟩ = some (.int .i64 a0_1) ∧ w'.cell? ⟨gb127, 2, none⟩ = some (.int .i64 a0_2) ∧ w'.cell? ⟨gb127, 3, none⟩ = some (.string a0_3) ∧ w'.cell? ⟨gb127, 4, none⟩ = some (.string a0_4) ∧ w'.cell? ⟨gb127, 5, none⟩ = some (.string a0_5) ∧ w'.cell? ⟨gb128, 0, none⟩ = some (.int .i64 a1_0) ∧ w'.cell? ⟨gb128, 1, none⟩ = some (.int .i64 a1_1) ∧ w'.cell? ⟨gb128, 2, none⟩ = some (.int .i64 a1_2) ∧ w'.cell? ⟨gb128, 3, none⟩ = some (.string a1_3) ∧ w'.cell? ⟨gb128, 4, none⟩ = some (.string a1_4) ∧ w'.cell? ⟨gb128, 5, none⟩ = some (.string a1_5)) (ds := []) #[false, false, false, false, false, false, false, false, false, false, false, false, false, false, false, false, false, false, false, false, false, false, false, false, false, false, false, false, false, false, false, false, false] (by kernel_rfl) rfl rfl ⟨(blk_cell BK127.out 0).trans rfl, (blk_cell BK127.out 1).trans rfl, (blk_cell BK127.out 2).trans rfl, (blk_cell BK127.out 3).trans rfl, (blk_cell BK127.out 4).trans rfl, (blk_cell BK127.out 5).trans rfl, (blk_cell BK128.out 0).trans rfl, (blk_cell BK128.out 1).trans rfl, (blk_cell BK128.out 2).trans rfl, (blk_cell BK128.out 3).trans rfl, (blk_cell BK128.out 4).trans rfl, (blk_cell BK128.out 5).trans rfl⟩ (fun hHeld => ?_); refine with_tabW deployment_Compare.tab1 deployment_Compare.bits1 (fun HT_ HW_ => ?_)
  generalize w11.drew = w12 at BK127 BK128 HB hHeld ⊢
  refine pu_ 0 (some 5) (bq 33 1) HT_ rfl rfl ?_
  refine pu_ 2 (some 7) (bq 33 5) HT_ rfl rfl ?_
  refine pu_ 5 (some 10) (bq 33 37) HT_ rfl rfl ?_
  refine pu_ 7 (some 12) (bq 33 165) HT_ rfl rfl ?_
  refine pu_ 10 (some 15) (bq 33 1189) HT_ rfl rfl ?_
  refine pu_ 12 (some 17) (bq 33 5285) HT_ rfl rfl ?_
  refine pu_ 15 (some 20) (bq 33 38053) HT_ rfl rfl ?_
  refine pu_ 17 (some 22) (bq 33 169125) HT_ rfl rfl ?_
  refine pu_ 20 (some 25) (bq 33 1217701) HT_ rfl rfl ?_
  refine pu_ 22 (some 27) (bq 33 5412005) HT_ rfl rfl ?_
  refine pu_ 25 (some 30) (bq 33 38966437) HT_ rfl rfl ?_
  refine pu_ 27 (some 32) (bq 33 173184165) HT_ rfl rfl ?_
  refine take_ (i := 1) (N := some 6) (v := ?_) (a' := ?_) #[true, true, true, false, false, true, false, true, false, false, true, false, true, false, false, true, false, true, false, false, true, false, true, false, false, true, false, true, false, false, false, false, false] rfl rfl (take_ofW HT_.out HW_.out (by kernel_rfl)) (fun _ _ _ h => h) (Or.inl ⟨by rfl, ?_⟩) hHeld ?_ ?_
  rotate_left
  · rintro w' ⟨s0, s1, s2, s3, s4, s5, s6, s7, s8, s9, s10, s11⟩
    go_simp
    with_reducible rfl
  rotate_left
  · simp only [Act.put, List.setIfInBounds_toArray, List.set_cons_zero, List.set_cons_succ, i64_w, i32_w]
    rfl
  refine take_ (i := 3) (N := some 8) (v := ?_) (a' := ?_) #[true, true, true, true, false, true, false, true, false, false, true, false, true, false, false, true, false, true, false, false, true, false, true, false, false, true, false, true, false, false, false, false, false] rfl rfl (take_ofW HT_.out HW_.out (by kernel_rfl)) (fun _ _ _ h => h) (Or.inl ⟨by rfl, ?_⟩) hHeld ?_ ?_
  rotate_left
  · rintro w' ⟨s0, s1, s2, s3, s4, s5, s6, s7, s8, s9, s10, s11⟩
    go_simp
    with_reducible rfl
  rotate_left
  · simp only [Act.put, List.setIfInBounds_toArray, List.set_cons_zero, List.set_cons_succ, i64_w, i32_w]
    rfl
  refine take_ (i := 6) (N := some 11) (v := ?_) (a' := ?_) #[true, true, true, true, false, true, true, true, false, false, true, false, true, false, false, true, false, true, false, false, true, false, true, false, false, true, false, true, false, false, false, false, false] rfl rfl (take_ofW HT_.out HW_.out (by kernel_rfl)) (fun _ _ _ h => h) (Or.inl ⟨by rfl, ?_⟩) hHeld ?_ ?_
  rotate_left
  · rintro w' ⟨s0, s1, s2, s3, s4, s5, s6, s7, s8, s9, s10, s11⟩
    go_simp
    with_reducible rfl
  rotate_left
  · simp only [Act.put, List.setIfInBounds_toArray, List.set_cons_zero, List.set_cons_succ, i64_w, i32_w]
    rfl
  refine take_ (i := 8) (N := some 13) (v := ?_) (a' := ?_) #[true, true, true, true, false, true, true, true, true, false, true, false, true, false, false, true, false, true, false, false, true, false, true, false, false, true, false, true, false, false, false, false, false] rfl rfl (take_ofW HT_.out HW_.out (by kernel_rfl)) (fun _ _ _ h => h) (Or.inl ⟨by rfl, ?_⟩) hHeld ?_ ?_
  rotate_left
  · rintro w' ⟨s0, s1, s2, s3, s4, s5, s6, s7, s8, s9, s10, s11⟩
    go_simp
    with_reducible rfl
  rotate_left
  · simp only [Act.put, List.setIfInBounds_toArray, List.set_cons_zero, List.set_cons_succ, i64_w, i32_w]
    rfl
  refine take_ (i := 11) (N := some 16) (v := ?_) (a' := ?_) #[true, true, true, true, false, true, true, true, true, false, true, true, true, false, false, true, false, true, false, false, true, false, true, false, false, true, false, true, false, false, false, false, false] rfl rfl (take_ofW HT_.out HW_.out (by kernel_rfl)) (fun _ _ _ h => h) (Or.inl ⟨by rfl, ?_⟩) hHeld ?_ ?_
  rotate_left
  · rintro w' ⟨s0, s1, s2, s3, s4, s5, s6, s7, s8, s9, s10, s11⟩
    go_simp
    with_reducible rfl
  rotate_left
  · simp only [Act.put, List.setIfInBounds_toArray, List.set_cons_zero, List.set_cons_succ, i64_w, i32_w]
    rfl
  refine take_ (i := 13) (N := some 18) (v := ?_) (a' := ?_) #[true, true, true, true, false, true, true, true, true, false, true, true, true, true, false, true, false, true, false, false, true, false, true, false, false, true, false, true, false, false, false, false, false] rfl rfl (take_ofW HT_.out HW_.out (by kernel_rfl)) (fun _ _ _ h => h) (Or.inl ⟨by rfl, ?_⟩) hHeld ?_ ?_
  rotate_left
  · rintro w' ⟨s0, s1, s2, s3, s4, s5, s6, s7, s8, s9, s10, s11⟩
    go_simp
    with_reducible rfl
  rotate_left
  · simp only [Act.put, List.setIfInBounds_toArray, List.set_cons_zero, List.set_cons_succ, i64_w, i32_w]
    rfl
  refine take_ (i := 16) (N := some 21) (v := ?_) (a' := ?_) #[true, true, true, true, false, true, true, true, true, false, true, true, true, true, false, true, true, true, false, false, true, false, true, false, false, true, false, true, false, false, false, false, false] rfl rfl (take_ofW HT_.out HW_.out (by kernel_rfl)) (fun _ _ _ h => h) (Or.inl ⟨by rfl, ?_⟩) hHeld ?_ ?_
  rotate_left
  · rintro w' ⟨s0, s1, s2, s3, s4, s5, s6, s7, s8, s9, s10, s11⟩
    go_simp
    with_reducible rfl
  rotate_left
  · simp only [Act.put, List.setIfInBounds_toArray, List.set_cons_zero, List.set_cons_succ, i64_w, i32_w]
    rfl
  refine take_ (i := 18) (N := some 23) (v := ?_) (a' := ?_) #[true, true, true, true, false, true, true, true, true, false, true, true, true, true, false, true, true, true, true, false, true, false, true, false, false, true, false, true, false, false, false, false, false] rfl rfl (take_ofW HT_.out HW_.out (by kernel_rfl)) (fun _ _ _ h => h) (Or.inl ⟨by rfl, ?_⟩) hHeld ?_ ?_
  rotate_left
  · rintro w' ⟨s0, s1, s2, s3, s4, s5, s6, s7, s8, s9, s10, s11⟩
    go_simp
    with_reducible rfl
  rotate_left
  · simp only [Act.put, List.setIfInBounds_toArray, List.set_cons_zero, List.set_cons_succ, i64_w, i32_w]
    rfl
  refine take_ (i := 21) (N := some 26) (v := ?_) (a' := ?_) #[true, true, true, true, false, true, true, true, true, false, true, true, true, true, false, true, true, true, true, false, true, true, true, false, false, true, false, true, false, false, false, false, false] rfl rfl (take_ofW HT_.out HW_.out (by kernel_rfl)) (fun _ _ _ h => h) (Or.inl ⟨by rfl, ?_⟩) hHeld ?_ ?_
  rotate_left
  · rintro w' ⟨s0, s1, s2, s3, s4, s5, s6, s7, s8, s9, s10, s11⟩
    go_simp
    with_reducible rfl
  rotate_left
  · simp only [Act.put, List.setIfInBounds_toArray, List.set_cons_zero, List.set_cons_succ, i64_w, i32_w]
    rfl
  refine take_ (i := 23) (N := some 28) (v := ?_) (a' := ?_) #[true, true, true, true, false, true, true, true, true, false, true, true, true, true, false, true, true, true, true, false, true, true, true, true, false, true, false, true, false, false, false, false, false] rfl rfl (take_ofW HT_.out HW_.out (by kernel_rfl)) (fun _ _ _ h => h) (Or.inl ⟨by rfl, ?_⟩) hHeld ?_ ?_
  rotate_left
  · rintro w' ⟨s0, s1, s2, s3, s4, s5, s6, s7, s8, s9, s10, s11⟩
    go_simp
    with_reducible rfl
  rotate_left
  · simp only [Act.put, List.setIfInBounds_toArray, List.set_cons_zero, List.set_cons_succ, i64_w, i32_w]
    rfl
  refine take_ (i := 26) (N := some 31) (v := ?_) (a' := ?_) #[true, true, true, true, false, true, true, true, true, false, true, true, true, true, false, true, true, true, true, false, true, true, true, true, false, true, true, true, false, false, false, false, false] rfl rfl (take_ofW HT_.out HW_.out (by kernel_rfl)) (fun _ _ _ h => h) (Or.inl ⟨by rfl, ?_⟩) hHeld ?_ ?_
  rotate_left
  · rintro w' ⟨s0, s1, s2, s3, s4, s5, s6, s7, s8, s9, s10, s11⟩
    go_simp
    with_reducible rfl
  rotate_left
  · simp only [Act.put, List.setIfInBounds_toArray, List.set_cons_zero, List.set_cons_succ, i64_w, i32_w]
    rfl
  refine take_ (i := 28) (N := some 33) (v := ?_) (a' := ?_) #[true, true, true, true, false, true, true, true, true, false, true, true, true, true, false, true, true, true, true, false, true, true, true, true, false, true, true, true, true, false, false, false, false] rfl rfl (take_ofW HT_.out HW_.out (by kernel_rfl)) (fun _ _ _ h => h) (Or.inl ⟨by rfl, ?_⟩) hHeld ?_ ?_
  rotate_left
  · rintro w' ⟨s0, s1, s2, s3, s4, s5, s6, s7, s8, s9, s10, s11⟩
    go_simp
    with_reducible rfl
  rotate_left
  · simp only [Act.put, List.setIfInBounds_toArray, List.set_cons_zero, List.set_cons_succ, i64_w, i32_w]
    rfl
  refine one_ (i := 4) (N := some 9) #[true, true, true, true, true, true, true, true, true, false, true, true, true, true, false, true, true, true, true, false, true, true, true, true, false, true, true, true, true, false, false, false, false] rfl rfl (one_of HT_.out (by kernel_rfl)) (by decide) (fun K hK => ?_)
  refine goes_ Try.func64 (by kernel_rfl) rfl #[.int .i64 a0_2, .int .i64 a1_2] (by rfl) rfl rfl (by (try simp only [List.map_toArray, List.map_cons, List.map_nil]); first | done | rfl | (simp only [List.length_drop, List.length_take]; rfl)) ?_
  with_reducible refine (cmp_Compare_int.calls a0_2 a1_2 t129 _ A3.out).mono ?_
  rintro e w' ⟨rfl, ⟨nd, rfl⟩⟩
  refine ⟨_, rfl, ?_⟩
  refine hK.out _ _ ⟨(blk_cell BK127.out 0).trans rfl, (blk_cell BK127.out 1).trans rfl, (blk_cell BK127.out 2).trans rfl, (blk_cell BK127.out 3).trans rfl, (blk_cell BK127.out 4).trans rfl, (blk_cell BK127.out 5).trans rfl, (blk_cell BK128.out 0).trans rfl, (blk_cell BK128.out 1).trans rfl, (blk_cell BK128.out 2).trans rfl, (blk_cell BK128.out 3).trans rfl, (blk_cell BK128.out 4).trans rfl, (blk_cell BK128.out 5).trans rfl⟩ (fun hHeld => ?_)
  clear hK K
  refine norm_ (a' := ?_) ?_ ?_
  rotate_left
  · show Act.put _ (some 9) _ = _
    simp only [Act.put, List.setIfInBounds_toArray, List.set_cons_zero, List.set_cons_succ, i64_w, i32_w]
    rfl
  refine one_ (i := 9) (N := some 14) #[true, true, true, true, true, true, true, true, true, true, true, true, true, true, false, true, true, true, true, false, true, true, true, true, false, true, true, true, true, false, false, false, false] rfl rfl (one_of HT_.out (by kernel_rfl)) (by decide) (fun K hK => ?_)
  refine goes_ Try.func64 (by kernel_rfl) rfl #[.int .i64 a0_0, .int .i64 a1_0] (by rfl) rfl rfl (by (try simp only [List.map_toArray, List.map_cons, List.map_nil]); first | done | rfl | (simp only [List.length_drop, List.length_take]; rfl)) ?_
  with_reducible refine (cmp_Compare_int.calls a0_0 a1_0 t130 _ A4.out).mono ?_
  rintro e w' ⟨rfl, ⟨nd, rfl⟩⟩
  refine ⟨_, rfl, ?_⟩
  refine hK.out _ _ ⟨(blk_cell BK127.out 0).trans rfl, (blk_cell BK127.out 1).trans rfl, (blk_cell BK127.out 2).trans rfl, (blk_cell BK127.out 3).trans rfl, (blk_cell BK127.out 4).trans rfl, (blk_cell BK127.out 5).trans rfl, (blk_cell BK128.out 0).trans rfl, (blk_cell BK128.out 1).trans rfl, (blk_cell BK128.out 2).trans rfl, (blk_cell BK128.out 3).trans rfl, (blk_cell BK128.out 4).trans rfl, (blk_cell BK128.out 5).trans rfl⟩ (fun hHeld => ?_)
  clear hK K
  refine norm_ (a' := ?_) ?_ ?_
  rotate_left
  · show Act.put _ (some 14) _ = _
    simp only [Act.put, List.setIfInBounds_toArray, List.set_cons_zero, List.set_cons_succ, i64_w, i32_w]
    rfl
  refine one_ (i := 14) (N := some 19) #[true, true, true, true, true, true, true, true, true, true, true, true, true, true, true, true, true, true, true, false, true, true, true, true, false, true, true, true, true, false, false, false, false] rfl rfl (one_of HT_.out (by kernel_rfl)) (by decide) (fun K hK => ?_)
  refine goes_ Try.func64 (by kernel_rfl) rfl #[.int .i64 a0_1, .int .i64 a1_1] (by rfl) rfl rfl (by (try simp only [List.map_toArray, List.map_cons, List.map_nil]); first | done | rfl | (simp only [List.length_drop, List.length_take]; rfl)) ?_
  with_reducible refine (cmp_Compare_int.calls a0_1 a1_1 t131 _ A5.out).mono ?_
  rintro e w' ⟨rfl, ⟨nd, rfl⟩⟩
  refine ⟨_, rfl, ?_⟩
  refine hK.out _ _ ⟨(blk_cell BK127.out 0).trans rfl, (blk_cell BK127.out 1).trans rfl, (blk_cell BK127.out 2).trans rfl, (blk_cell BK127.out 3).trans rfl, (blk_cell BK127.out 4).trans rfl, (blk_cell BK127.out 5).trans rfl, (blk_cell BK128.out 0).trans rfl, (blk_cell BK128.out 1).trans rfl, (blk_cell BK128.out 2).trans rfl, (blk_cell BK128.out 3).trans rfl, (blk_cell BK128.out 4).trans rfl, (blk_cell BK128.out 5).trans rfl⟩ (fun hHeld => ?_)
  clear hK K
  refine norm_ (a' := ?_) ?_ ?_
  rotate_left
  · show Act.put _ (some 19) _ = _
    simp only [Act.put, List.setIfInBounds_toArray, List.set_cons_zero, List.set_cons_succ, i64_w, i32_w]
    rfl
  refine one_ (i := 19) (N := some 24) #[true, true, true, true, true, true, true, true, true, true, true, true, true, true, true, true, true, true, true, true, true, true, true, true, false, true, true, true, true, false, false, false, false] rfl rfl (one_of HT_.out (by kernel_rfl)) (by decide) (fun K hK => ?_)
  refine goes_ Try.func103 (by kernel_rfl) rfl #[.string a0_3, .string a1_3] (by rfl) rfl rfl (by (try simp only [List.map_toArray, List.map_cons, List.map_nil]); first | done | rfl | (simp only [List.length_drop, List.length_take]; rfl)) ?_
  with_reducible refine (cmp_Compare_string.calls a0_3 a1_3 t132 _ A6.out).mono ?_
  rintro e w' ⟨rfl, ⟨nd, rfl⟩⟩
  refine ⟨_, rfl, ?_⟩
  refine hK.out _ _ ⟨(blk_cell BK127.out 0).trans rfl, (blk_cell BK127.out 1).trans rfl, (blk_cell BK127.out 2).trans rfl, (blk_cell BK127.out 3).trans rfl, (blk_cell BK127.out 4).trans rfl, (blk_cell BK127.out 5).trans rfl, (blk_cell BK128.out 0).trans rfl, (blk_cell BK128.out 1).trans rfl, (blk_cell BK128.out 2).trans rfl, (blk_cell BK128.out 3).trans rfl, (blk_cell BK128.out 4).trans rfl, (blk_cell BK128.out 5).trans rfl⟩ (fun hHeld => ?_)
  clear hK K
  refine norm_ (a' := ?_) ?_ ?_
  rotate_left
  · show Act.put _ (some 24) _ = _
    simp only [Act.put, List.setIfInBounds_toArray, List.set_cons_zero, List.set_cons_succ, i64_w, i32_w]
    rfl
  refine one_ (i := 24) (N := some 29) #[true, true, true, true, true, true, true, true, true, true, true, true, true, true, true, true, true, true, true, true, true, true, true, true, true, true, true, true, true, false, false, false, false] rfl rfl (one_of HT_.out (by kernel_rfl)) (by decide) (fun K hK => ?_)
  refine goes_ Try.func103 (by kernel_rfl) rfl #[.string a0_4, .string a1_4] (by rfl) rfl rfl (by (try simp only [List.map_toArray, List.map_cons, List.map_nil]); first | done | rfl | (simp only [List.length_drop, List.length_take]; rfl)) ?_
  with_reducible refine (cmp_Compare_string.calls a0_4 a1_4 t133 _ A7.out).mono ?_
  rintro e w' ⟨rfl, ⟨nd, rfl⟩⟩
  refine ⟨_, rfl, ?_⟩
  refine hK.out _ _ ⟨(blk_cell BK127.out 0).trans rfl, (blk_cell BK127.out 1).trans rfl, (blk_cell BK127.out 2).trans rfl, (blk_cell BK127.out 3).trans rfl, (blk_cell BK127.out 4).trans rfl, (blk_cell BK127.out 5).trans rfl, (blk_cell BK128.out 0).trans rfl, (blk_cell BK128.out 1).trans rfl, (blk_cell BK128.out 2).trans rfl, (blk_cell BK128.out 3).trans rfl, (blk_cell BK128.out 4).trans rfl, (blk_cell BK128.out 5).trans rfl⟩ (fun hHeld => ?_)
  clear hK K
  refine norm_ (a' := ?_) ?_ ?_
  rotate_left
  · show Act.put _ (some 29) _ = _
    simp only [Act.put, List.setIfInBounds_toArray, List.set_cons_zero, List.set_cons_succ, i64_w, i32_w]
    rfl
  refine one_ (i := 29) (N := some 34) #[true, true, true, true, true, true, true, true, true, true, true, true, true, true, true, true, true, true, true, true, true, true, true, true, true, true, true, true, true, true, false, false, false] rfl rfl (one_of HT_.out (by kernel_rfl)) (by decide) (fun K hK => ?_)
  refine goes_ Try.func103 (by kernel_rfl) rfl #[.string a0_5, .string a1_5] (by rfl) rfl rfl (by (try simp only [List.map_toArray, List.map_cons, List.map_nil]); first | done | rfl | (simp only [List.length_drop, List.length_take]; rfl)) ?_
  with_reducible refine (cmp_Compare_string.calls a0_5 a1_5 t134 _ A8.out).mono ?_
  rintro e w' ⟨rfl, ⟨nd, rfl⟩⟩
  refine ⟨_, rfl, ?_⟩
  refine hK.out _ _ ⟨(blk_cell BK127.out 0).trans rfl, (blk_cell BK127.out 1).trans rfl, (blk_cell BK127.out 2).trans rfl, (blk_cell BK127.out 3).trans rfl, (blk_cell BK127.out 4).trans rfl, (blk_cell BK127.out 5).trans rfl, (blk_cell BK128.out 0).trans rfl, (blk_cell BK128.out 1).trans rfl, (blk_cell BK128.out 2).trans rfl, (blk_cell BK128.out 3).trans rfl, (blk_cell BK128.out 4).trans rfl, (blk_cell BK128.out 5).trans rfl⟩ (fun hHeld => ?_)
  clear hK K
  refine norm_ (a' := ?_) ?_ ?_
  rotate_left
  · show Act.put _ (some 34) _ = _
    simp only [Act.put, List.setIfInBounds_toArray, List.set_cons_zero, List.set_cons_succ, i64_w, i32_w]
    rfl
  refine one_ (i := 30) (N := some 35) #[true, true, true, true, true, true, true, true, true, true, true, true, true, true, true, true, true, true, true, true, true, true, true, true, true, true, true, true, true, true, true, false, false] rfl rfl (one_of HT_.out (by kernel_rfl)) (by decide) (fun K hK => ?_)
  refine Kd.R_lit_step (Kd.int .i64) _ 3 ?hg (N := 35) ?hd (xs := ([t129, t130, t131, t132, t133, t134] : List Int)) (inner := [.int .i64 t129, .int .i64 t130, .int .i64 t131, .int .i64 t132, .int .i64 t133, .int .i64 t134]) (ok := fun _ => True) (okp := fun _ => True) ?hr ?hp (fun _ hk => hk) trivial (Below.refl _ _) (Nat.le_refl _) (by simp) ?_; (case hd => rfl); (case hg => rfl); (case hr => first | (go_simp; done) | (go_simp; rfl)); (case hp => exact (Reps.one (show Kd.M (Kd.int .i64) _ _ _ t129 [.int .i64 t129] from rfl) (Reps.one (show Kd.M (Kd.int .i64) _ _ _ t130 [.int .i64 t130] from rfl) (Reps.one (show Kd.M (Kd.int .i64) _ _ _ t131 [.int .i64 t131] from rfl) (Reps.one (show Kd.M (Kd.int .i64) _ _ _ t132 [.int .i64 t132] from rfl) (Reps.one (show Kd.M (Kd.int .i64) _ _ _ t133 [.int .i64 t133] from rfl) (Reps.one (show Kd.M (Kd.int .i64) _ _ _ t134 [.int .i64 t134] from rfl) (Reps.none _ _))))))))
  intro v136 w13 ho14 hb hg_ hnew_
  clear hg_ hnew_
  (first | rw [← Ny135.out] at ho14 | (simp only [Int.reduceToNat] at ho14; rw [← Ny135.out] at ho14))
  have n0_ := Aside0.mk (Kd.R_lower ho14 (below_size (by repeat (first | (with_reducible first | exact HB.out | apply below_alloc | apply pw_below_drewN | apply below_drew1 | refine below_set ?_ GE127.out | refine below_set ?_ GE128.out) | exact HB.out))))
  have n1_ := Aside0.mk (blk_below (g := gb127) (o := .cells #[.int .i64 a0_0, .int .i64 a0_1, .int .i64 a0_2, .string a0_3, .string a0_4, .string a0_5] 100 (0, 0)) (by (with_reducible repeat (first | refine blk_drewN ?_ _ | refine blk_drew ?_ | refine blk_alloc ?_ _)); exact BK127.out) hb)
  have n2_ := Aside0.mk (blk_below (g := gb128) (o := .cells #[.int .i64 a1_0, .int .i64 a1_1, .int .i64 a1_2, .string a1_3, .string a1_4, .string a1_5] 100 (0, 0)) (by (with_reducible repeat (first | refine blk_drewN ?_ _ | refine blk_drew ?_ | refine blk_alloc ?_ _)); exact BK128.out) hb)
  have n3_ := Aside0.mk (below_step (by repeat (first | (with_reducible first | exact HB.out | apply below_alloc | apply pw_below_drewN | apply below_drew1 | refine below_set ?_ GE127.out | refine below_set ?_ GE128.out) | exact HB.out)) hb)
  clear BK127
  clear BK128
  clear HB
  have HO137 := n0_
  have BK127 := n1_
  have BK128 := n2_
  have HB := n3_
  clear n0_ n1_ n2_ n3_
  clear hb ho14
  obtain ⟨Ao15, co15, eo15⟩ := Kd.R_slice HO137.out
  (first | subst eo15 | (injection eo15 with f1_ f2_ f3_; have f4_ := f1_.symm; have f5_ := f3_.symm; clear f1_ f2_ f3_; subst f4_; subst f5_))
  refine hK.out _ _ ⟨(blk_cell BK127.out 0).trans rfl, (blk_cell BK127.out 1).trans rfl, (blk_cell BK127.out 2).trans rfl, (blk_cell BK127.out 3).trans rfl, (blk_cell BK127.out 4).trans rfl, (blk_cell BK127.out 5).trans rfl, (blk_cell BK128.out 0).trans rfl, (blk_cell BK128.out 1).trans rfl, (blk_cell BK128.out 2).trans rfl, (blk_cell BK128.out 3).trans rfl, (blk_cell BK128.out 4).trans rfl, (blk_cell BK128.out 5).trans rfl⟩ (fun hHeld => ?_)
  clear hK K
  refine norm_ (a' := ?_) ?_ ?_
  rotate_left
  · show Act.put _ (some 35) _ = _
    simp only [Act.put, List.setIfInBounds_toArray, List.set_cons_zero, List.set_cons_succ, i64_w, i32_w]
    rfl
  refine one_ (i := 31) (N := some 36) #[true, true, true, true, true, true, true, true, true, true, true, true, true, true, true, true, true, true, true, true, true, true, true, true, true, true, true, true, true, true, true, true, false] rfl rfl (one_of HT_.out (by kernel_rfl)) (by decide) (fun K hK => ?_)
  refine goes_ Try.func63 (by kernel_rfl) rfl #[.slice Ao15 y135.length co15] (by rfl) rfl rfl (by (try simp only [List.map_toArray, List.map_cons, List.map_nil]); first | done | rfl | (simp only [List.length_drop, List.length_take]; rfl)) ?_
  with_reducible refine (cmp_Or_int.calls k _ _ y135 t138 _ ?side1 ?side2 A9.out).mono ?_
  (case side1 => repeat (first | exact (Kd.R_reads' HO137.out).2.2 | (with_reducible refine Kd.C_alloc ?_ _) | (with_reducible refine Kd.C_drewN ?_ _) | (with_reducible refine Kd.C_drew ?_)))
  (case side2 => exact (Kd.R_reads' HO137.out).2.1)
  rintro e w' ⟨rfl, ⟨nd, rfl⟩⟩
  refine ⟨_, rfl, ?_⟩
  refine hK.out _ _ ⟨(blk_cell BK127.out 0).trans rfl, (blk_cell BK127.out 1).trans rfl, (blk_cell BK127.out 2).trans rfl, (blk_cell BK127.out 3).trans rfl, (blk_cell BK127.out 4).trans rfl, (blk_cell BK127.out 5).trans rfl, (blk_cell BK128.out 0).trans rfl, (blk_cell BK128.out 1).trans rfl, (blk_cell BK128.out 2).trans rfl, (blk_cell BK128.out 3).trans rfl, (blk_cell BK128.out 4).trans rfl, (blk_cell BK128.out 5).trans rfl⟩ (fun hHeld => ?_)
  clear hK K
  refine norm_ (a' := ?_) ?_ ?_
  rotate_left
  · show Act.put _ (some 36) _ = _
    simp only [Act.put, List.setIfInBounds_toArray, List.set_cons_zero, List.set_cons_succ, i64_w, i32_w]
    rfl
  refine pu_ 32 (some 4) (bq 33 8589934591) HT_ rfl rfl ?_
  refine done_ (done_of HT_.out (by kernel_rfl)) ?_
  try go_wp2
  go_ret
  exact ⟨by first | rfl | (simp [errW_none, errW_some] <;> rfl) | (simp [*, errW_none, errW_some] <;> rfl), by repeat (first | (with_reducible first | exact HB.out | apply below_alloc | apply pw_below_drewN | apply below_drew1 | refine below_set ?_ GE127.out | refine below_set ?_ GE128.out) | exact HB.out)⟩
end Go.Proofs.Ytdadnapfecmmdaa.P
namespace Go.Proofs.Ytdadnapfecmmdaa.Hm
set_option linter.unusedVariables false
set_option linter.unusedSimpArgs false
open Go.RowKit Go.MapKept Go.Proofs.YtdadnapfecmmdaaW.PrintWords
section plain
variable {α β : Type} [DecidableEq α]
def mget : List (α × β) → α → Option β
  | [], _ => none
  | p :: r, k => if p.1 = k then some p.2 else mget r k
def mput : List (α × β) → α → β → List (α × β)
  | [], k, v => [(k, v)]
  | p :: r, k, v => if p.1 = k then (k, v) :: r else p :: mput r k v
def mfind : List (α × β) → α → Option (Nat × β)
  | [], _ => none
  | p :: r, k => if p.1 = k then some (0, p.2) else (mfind r k).map fun q => (q.1 + 1, q.2)
theorem mfind_get (l : List (α × β)) (k : α) : (mfind l k).map (·.2) = mget l k := by
  induction l with
  | nil => rfl
  | cons p r ih =>
    unfold mfind mget
    by_cases h : p.1 = k
    · simp [h]
    · simp only [h, if_false]
      rw [← ih]
      cases mfind r k <;> rfl
theorem mget_put_same (l : List (α × β)) (k : α) (v : β) : mget (mput l k v) k = some v := by
  induction l with
  | nil => simp [mput, mget]
  | cons p r ih =>
    unfold mput
    by_cases h : p.1 = k
    · simp [h, mget]
    · simp [h, mget, ih]
theorem mget_put_other (l : List (α × β)) (k k' : α) (v : β) (hne : k' ≠ k) : mget (mput l k v) k' = mget l k' := by
  induction l with
  | nil => simp [mput, mget, Ne.symm hne]
  | cons p r ih =>
    unfold mput
    by_cases h : p.1 = k
    · subst h
      simp [mget, Ne.symm hne]
    · simp only [h, if_false]
      unfold mget
      by_cases h' : p.1 = k'
      · simp [h']
      · simp [h', ih]
end plain
variable {α β : Type} {P : Program} {K E T : TypeId} {d : TypeDesc} {kd : α → Value} {vd : β → Value}
structure KeyEnc (d : TypeDesc) (kd : α → Value) : Prop where
  key : ∀ x, IsKey d (kd x)
  inj : ∀ x y, kd x = kd y → x = y
  bits : ∀ x, Instr.sameBits 10000 (kd x) (kd x) = true
def MapIs (w : World) (b : Nat) (kd : α → Value) (vd : β → Value) (l : List (α × β)) : Prop :=
  ∃ es clock, w.heap[b]? = some (.map es clock) ∧ es.toList.map (fun e => (e.key, e.val)) = l.map fun p => (kd p.1, vd p.2)
theorem MapIs.lt {w : World} {b : Nat} {l : List (α × β)} (h : MapIs w b kd vd l) : b < w.heap.size := by
  obtain ⟨es, clock, hb, _⟩ := h
  exact (Array.getElem?_eq_some_iff.1 hb).1
theorem MapIs.made (w : World) (kd : α → Value) (vd : β → Value) : MapIs (w.alloc (.map #[] 0)) w.heap.size kd vd ([] : List (α × β)) :=
  ⟨#[], 0, heap_alloc_new w _, rfl⟩
theorem MapIs.move {w w1 : World} {b : Nat} {l : List (α × β)} (h : MapIs w b kd vd l) (hm : w1.heap[b]? = w.heap[b]?) : MapIs w1 b kd vd l := by
  obtain ⟨es, clock, hb, he⟩ := h
  exact ⟨es, clock, hm.trans hb, he⟩
theorem MapIs.below {w w1 : World} {b : Nat} {l : List (α × β)} (h : MapIs w b kd vd l) (hb : Below w.heap.size w w1) : MapIs w1 b kd vd l := h.move (hb.block b h.lt)
theorem MapIs.alloc {w : World} {b : Nat} {l : List (α × β)} (h : MapIs w b kd vd l) (o : Obj) : MapIs (w.alloc o) b kd vd l := h.below ((Below.refl _ _).alloc (Nat.le_refl _) o)
theorem MapIs.setCell {w : World} {b : Nat} {l : List (α × β)} (h : MapIs w b kd vd l) (a : Addr) (v : Value) (hne : b ≠ a.block) : MapIs (w.setCell a v) b kd vd l := h.move (Below.heap_setCell w a v b hne)
variable [DecidableEq α]
theorem find_of (hk : KeyEnc d kd) (k : α) : ∀ (es : List MapEntry) (l : List (α × β)) (i : Nat), es.map (fun e => (e.key, e.val)) = l.map (fun p => (kd p.1, vd p.2)) →
    Instr.findNow d (kd k) es i = some ((mfind l k).map fun q => (i + q.1, vd q.2))
  | [], [], _, _ => rfl
  | [], _ :: _, _, h => by simp at h
  | _ :: _, [], _, h => by simp at h
  | e :: es, p :: l, i, h => by
    simp only [List.map_cons, List.cons.injEq, Prod.mk.injEq] at h
    obtain ⟨⟨hk1, hv1⟩, hr⟩ := h
    have ih := find_of hk k es l (i + 1) hr
    obtain ⟨r, hr1, hiff⟩ := sameNow_of_keys (hk.key k) (hk1 ▸ hk.key p.1 : IsKey d e.key)
    unfold Instr.findNow mfind
    rw [hr1]
    by_cases hp : p.1 = k
    · have : r = true := hiff.2 (by rw [hk1, hp])
      subst this
      simp [hp, hv1]
    · have : r = false := by
        cases r with
        | false => rfl
        | true => exact absurd (hk.inj _ _ ((hiff.1 rfl).trans hk1)).symm hp
      subst this
      simp only [ih, hp, if_false]
      cases mfind l k with
      | none => rfl
      | some q =>
        simp only [Option.map_some, Option.some.injEq, Prod.mk.injEq, and_true]
        omega
theorem mfind_put {β : Type} (l : List (α × β)) (k : α) (v : β) : (mfind l k = none ∧ mput l k v = l ++ [(k, v)]) ∨ ∃ j u, mfind l k = some (j, u) ∧ j < l.length ∧ l[j]? = some (k, u) ∧ mput l k v = l.set j (k, v) := by
  induction l with
  | nil => exact .inl ⟨rfl, rfl⟩
  | cons p r ih =>
    unfold mfind mput
    by_cases h : p.1 = k
    · exact .inr ⟨0, p.2, by simp [h], by simp, by simp [← h], by simp [h]⟩
    · rcases ih with ⟨h1, h2⟩ | ⟨j, u, h1, h2, h3, h4⟩
      · exact .inl ⟨by simp [h, h1], by simp [h, h2]⟩
      · exact .inr ⟨j + 1, u, by simp [h, h1], by simpa using h2, by simpa using h3, by simp [h, h4]⟩
theorem MapIs.look {w : World} {b : Nat} {l : List (α × β)} (h : MapIs w b kd vd l) (hT : P.underlying T = some (.map K E)) (hK : P.underlying K = some d) (hk : KeyEnc d kd) {z : Value} (hz : (zeroValue E).run P w = .ok z w) (k : α) :
    (Instr.lookup T (.map (some b)) (kd k) false).run P w = .ok ((mget l k).elim z vd) w := by
  obtain ⟨es, clock, hb, he⟩ := h
  have hf := find_of (β := β) (vd := vd) hk k es.toList l 0 he
  have hrun := run_findKey (w := w) hK hf
  rw [← mfind_get]
  cases hm : mfind l k with
  | none =>
    rw [hm] at hrun
    simp [Instr.lookup, run_underlying hT, MapKept.run_getObj_map hb, run_checkKey hK (hk.key k), hrun, hz, Result.andThen]
  | some q =>
    rw [hm] at hrun
    simp [Instr.lookup, run_underlying hT, MapKept.run_getObj_map hb, run_checkKey hK (hk.key k), hrun, Result.andThen]
theorem MapIs.store {w : World} {b : Nat} {l : List (α × β)} (h : MapIs w b kd vd l) (hT : P.underlying T = some (.map K E)) (hK : P.underlying K = some d) (hk : KeyEnc d kd) (k : α) (v : β) :
    ∃ w1, (Instr.mapUpdate T (.map (some b)) (kd k) (vd v)).run P w = .ok () w1 ∧ MapIs w1 b kd vd (mput l k v) ∧ w.grownBy w1 (some b) := by
  obtain ⟨es, clock, hb, he⟩ := h
  have hf := find_of (β := β) (vd := vd) hk k es.toList l 0 he
  have hrun := run_findKey (w := w) hK hf
  have hgr : ∀ o : Obj, w.grownBy { w with heap := w.heap.setIfInBounds b o } (some b) := fun o =>
    ⟨rfl, rfl, rfl, by simp, fun i hi hne => by
      have : i ≠ b := fun e => hne (by rw [e])
      exact (heap_set (o' := o) hb).2 i this⟩
  rcases mfind_put l k v with ⟨h1, h2⟩ | ⟨j, u, h1, h2, h3, h4⟩
  · rw [h1] at hrun
    refine ⟨_, by simp [Instr.mapUpdate, run_underlying hT, MapKept.run_getObj_map hb, run_checkKey hK (hk.key k), hrun, MapKept.run_setObj_map _ hb, Result.andThen]; rfl, ⟨_, _, (heap_set hb).1, ?_⟩, hgr _⟩
    rw [h2]
    simp [he]
  · rw [h1] at hrun
    have hlen : es.size = l.length := by have := congrArg List.length he; simpa using this
    have hj : j < es.size := by omega
    have hel : (es.toList.map (fun e => (e.key, e.val)))[j]? = some (kd k, vd u) := by rw [he]; simp [h3]
    have hkey : es[j].key = kd k := by
      simp [hj] at hel
      exact hel.1
    have hes : es[j]? = some es[j] := by simp [hj]
    refine ⟨_, by simp [Instr.mapUpdate, run_underlying hT, MapKept.run_getObj_map hb, run_checkKey hK (hk.key k), hrun, MapKept.run_setObj_map _ hb, Result.andThen, hes, Instr.keyThatStays, hkey, hk.bits]; rfl, ⟨_, _, (heap_set hb).1, ?_⟩, hgr _⟩
    rw [h4]
    simp only [Array.toList_modify, List.map_set, ← he]
    apply List.ext_getElem?
    intro i
    simp only [List.getElem?_map, List.getElem?_modify, List.getElem?_set, List.length_map, Array.length_toList]
    by_cases hij : j = i
    · subst hij
      simp [hj]
    · simp [hij]
section
variable {ops : Array Oper} {rest : List Oper} {o : Oper} {a : Act} {Q : Exit → Act → World → Prop} {w : World}
theorem wp_store (hg : o.guard = none) (m x v : Operand) (hop : o.op = Op.mapUpdate T m x v) (hT : P.underlying T = some (.map K E)) (hK : P.underlying K = some d) (hk : KeyEnc d kd)
    {b : Nat} {l : List (α × β)} (h : MapIs w b kd vd l) (hm : a.eval m = .map (some b)) (k : α) (u : β) (hx : a.eval x = kd k) (hv : a.eval v = vd u)
    (hK1 : ∀ w1, MapIs w1 b kd vd (mput l k u) → w.grownBy w1 (some b) → wpList P ops Q rest (a.put o.dst undef) w1) : wpList P ops Q (o :: rest) a w := by
  refine wpList_plain hg fun K' hK' => ?_
  obtain ⟨w', hrun, r1, r2⟩ := h.store (P := P) hT hK hk k u
  unfold Oper.wp
  simp [execOp, hop, hm, hx, hv, hrun, Result.andThen]
  exact hK' _ _ (hK1 w' r1 r2)
theorem wp_look (hg : o.guard = none) (m x : Operand) (hop : o.op = Op.lookup T m x false) (hT : P.underlying T = some (.map K E)) (hK : P.underlying K = some d) (hk : KeyEnc d kd)
    {b : Nat} {l : List (α × β)} (h : MapIs w b kd vd l) (hm : a.eval m = .map (some b)) (k : α) (hx : a.eval x = kd k) {z : Value} (hz : (zeroValue E).run P w = .ok z w)
    (hK1 : wpList P ops Q rest (a.put o.dst ((mget l k).elim z vd)) w) : wpList P ops Q (o :: rest) a w := by
  refine wpList_plain hg fun K' hK' => ?_
  have hrun := h.look (P := P) hT hK hk hz k
  unfold Oper.wp
  simp [execOp, hop, hm, hx, hrun, Result.andThen]
  exact hK' _ _ hK1
end
theorem enc_string : KeyEnc (α := ByteArray) .string Value.string := ⟨fun _ => by simp [IsKey], fun x y h => by simpa using h, fun x => by simp [Instr.sameBits, bytes_beq]⟩
theorem enc_int (k : IntKind) : KeyEnc (α := Int) (.int k) (Value.int k) := ⟨fun _ => by simp [IsKey], fun x y h => by simpa using h, fun x => by simp [Instr.sameBits]⟩
end Go.Proofs.Ytdadnapfecmmdaa.Hm
namespace Go.Proofs.Ytdadnapfecmmdaa.P
set_option linter.unusedVariables false
set_option linter.unusedSimpArgs false
open Go.RowKit Go.Proofs.YtdadnapfecmmdaaW.PrintWords Go.Proofs.YtdadnapfecmmdaaW.PrintLast Go.Proofs.YtdadnapfecmmdaaW.PrintMore
open Go.Proofs.Ytdadnapfecmmdaa.Hm
theorem within_total (s : ByteArray) (lo hi : Int) (hn : s.size ≤ 64) (d : Nat) : ∀ (k : Nat) (i : Int), 0 ≤ i → i ≤ s.size → (s.size : Int) - i = d → d < k → ∃ b, attribute_within.l0 k s lo hi (s.size : Int) i = some b := by
  induction d with
  | zero =>
    intro k i h0 h1 hd hk
    obtain ⟨k, rfl⟩ : ∃ m, k = m + 1 := ⟨k - 1, by omega⟩
    exact ⟨true, by simp only [attribute_within.l0]; rw [if_neg (by omega)]⟩
  | succ d ih =>
    intro k i h0 h1 hd hk
    obtain ⟨k, rfl⟩ : ∃ m, k = m + 1 := ⟨k - 1, by omega⟩
    obtain ⟨b, hb⟩ := ih k (i + 1) (by omega) (by omega) (by omega) (by omega)
    have hw : wrap64 (i + 1) = i + 1 := by unfold wrap64; omega
    simp only [attribute_within.l0]
    rw [if_pos (by omega), if_pos h0, if_pos (by omega), hw, hb]
    split
    · exact ⟨_, rfl⟩
    · split
      · exact ⟨_, rfl⟩
      · exact ⟨_, rfl⟩
theorem isName_total (s : ByteArray) : ∃ b, ∀ k, attribute_IsName.f (k + 70) s = some b := by
  by_cases h1 : s.toList = []
  · exact ⟨false, fun k => by unfold attribute_IsName.f; rw [if_pos h1]⟩
  · by_cases h2 : (s.size : Int) ≤ 64
    · obtain ⟨b, hb⟩ := within_total s 33 126 (by omega) s.size 70 0 (by omega) (by omega) (by omega) (by omega)
      refine ⟨b, fun k => ?_⟩
      have hm : ∀ k, attribute_within.l0 (k + 70) s 33 126 (s.size : Int) 0 = some b := by
        intro k
        induction k with
        | zero => exact hb
        | succ k ih =>
          have := attribute_within.mono_l (k + 70) s 33 126 (s.size : Int) 0 b ih
          rw [show k + 1 + 70 = k + 70 + 1 from by omega]
          exact this
      unfold attribute_IsName.f attribute_within.f
      rw [if_neg h1, if_pos h2, hm k]
      rfl
    · exact ⟨false, fun k => by unfold attribute_IsName.f; rw [if_neg h1, if_neg h2]⟩
def Tot {α : Type} (o : Option α) : Prop := ∃ r, o = some r
theorem Tot.some {α : Type} (r : α) : Tot (some r) := ⟨r, rfl⟩
theorem Tot.ite {α : Type} {c : Prop} [Decidable c] {a b : Option α} (ha : Tot a) (hb : Tot b) : Tot (if c then a else b) := by
  by_cases h : c
  · rw [if_pos h]; exact ha
  · rw [if_neg h]; exact hb
theorem Tot.bind {α β : Type} {a : Option α} {f : α → Option β} (ha : Tot a) (hf : ∀ r, Tot (f r)) : Tot (a.bind f) := by
  obtain ⟨r, rfl⟩ := ha
  exact hf r
theorem isName_tot (k : Nat) (s : ByteArray) : Tot (attribute_IsName.f (k + 70) s) := by
  obtain ⟨b, h⟩ := isName_total s
  exact ⟨b, h k⟩
theorem checkOne_total (c : S100) : Tot (deployment_checkOne.f (((((5 + 70) + 1) + 1) + 1) + 1) c.f0 c.f1 c.f2 c.f3 c.f4 c.f5) := by
  have j3 : ∀ a b t x0 x1 x2 x3 x4 x5, Tot (deployment_checkOne.j3 ((5 + 70) + 1) a b t x0 x1 x2 x3 x4 x5) := fun a b t x0 x1 x2 x3 x4 x5 => by
    rw [deployment_checkOne.j3]
    exact Tot.ite (Tot.some _) (Tot.bind (isName_tot 5 _) fun r => Tot.ite (Tot.ite (Tot.bind (isName_tot 5 _) fun r => Tot.ite (Tot.some _) (Tot.some _)) (Tot.some _)) (Tot.some _))
  have j2 : ∀ a b t x0 x1 x2 x3 x4 x5, Tot (deployment_checkOne.j2 (((5 + 70) + 1) + 1) a b t x0 x1 x2 x3 x4 x5) := fun a b t x0 x1 x2 x3 x4 x5 => by
    rw [deployment_checkOne.j2]
    exact Tot.ite (Tot.some _) (Tot.ite (j3 _ _ _ _ _ _ _ _ _) (j3 _ _ _ _ _ _ _ _ _))
  have j1 : ∀ a b t x0 x1 x2 x3 x4 x5, Tot (deployment_checkOne.j1 ((((5 + 70) + 1) + 1) + 1) a b t x0 x1 x2 x3 x4 x5) := fun a b t x0 x1 x2 x3 x4 x5 => by
    rw [deployment_checkOne.j1]
    exact Tot.ite (Tot.some _) (Tot.ite (j2 _ _ _ _ _ _ _ _ _) (j2 _ _ _ _ _ _ _ _ _))
  have j0 : ∀ a b x0 x1 x2 x3 x4 x5, Tot (deployment_checkOne.j0 (((((5 + 70) + 1) + 1) + 1) + 1) a b x0 x1 x2 x3 x4 x5) := fun a b x0 x1 x2 x3 x4 x5 => by
    rw [deployment_checkOne.j0]
    exact Tot.ite (j1 _ _ _ _ _ _ _ _ _) (j1 _ _ _ _ _ _ _ _ _)
  unfold deployment_checkOne.f
  exact Tot.ite (j0 _ _ _ _ _ _ _ _) (j0 _ _ _ _ _ _ _ _)
def chkOne (c : S100) : Int := (deployment_checkOne.f (((((5 + 70) + 1) + 1) + 1) + 1) c.f0 c.f1 c.f2 c.f3 c.f4 c.f5).getD 0
theorem chkOne_some (c : S100) : deployment_checkOne.f (((((5 + 70) + 1) + 1) + 1) + 1) c.f0 c.f1 c.f2 c.f3 c.f4 c.f5 = some (chkOne c) := by
  obtain ⟨r, h⟩ := checkOne_total c
  unfold chkOne
  rw [h]
  rfl
theorem or_total (l : List Int) (hn : l.length ≤ 6) (d : Nat) : ∀ (k : Nat) (i : Int), 0 ≤ i → i ≤ l.length → (l.length : Int) - i = d → d < k → ∃ b, cmp_Or_int.l0 k 0 l (l.length : Int) i = some b := by
  induction d with
  | zero =>
    intro k i h0 h1 hd hk
    obtain ⟨k, rfl⟩ : ∃ m, k = m + 1 := ⟨k - 1, by omega⟩
    exact ⟨0, by simp only [cmp_Or_int.l0]; rw [if_neg (by omega)]⟩
  | succ d ih =>
    intro k i h0 h1 hd hk
    obtain ⟨k, rfl⟩ : ∃ m, k = m + 1 := ⟨k - 1, by omega⟩
    obtain ⟨b, hb⟩ := ih k (i + 1) (by omega) (by omega) (by omega) (by omega)
    have hw : wrap64 (i + 1) = i + 1 := by unfold wrap64; omega
    simp only [cmp_Or_int.l0]
    rw [if_pos (by omega), if_pos h0, if_pos (by omega), hw, hb]
    split
    · exact ⟨_, rfl⟩
    · exact ⟨_, rfl⟩
theorem cmpInt_total (a b : Int) : ∃ r, cmp_Compare_int.f a b = some r := by
  unfold cmp_Compare_int.f cmp_isNaN_int.f
  simp only [Option.bind_some]
  (repeat' split) <;> exact ⟨_, rfl⟩
theorem chgCmp_total (a b : S100) : ∃ r, deployment_Compare.f 10 a.f0 a.f1 a.f2 a.f3 a.f4 a.f5 b.f0 b.f1 b.f2 b.f3 b.f4 b.f5 = some r := by
  unfold deployment_Compare.f
  obtain ⟨r0, h0⟩ := cmpInt_total a.f2 b.f2
  obtain ⟨r1, h1⟩ := cmpInt_total a.f0 b.f0
  obtain ⟨r2, h2⟩ := cmpInt_total a.f1 b.f1
  rw [h0, h1, h2]
  simp only [Option.bind_some, cmp_Compare_string.f]
  obtain ⟨r, h⟩ := or_total [r0, r1, r2, cmpStr a.f3 b.f3, cmpStr a.f4 b.f4, cmpStr a.f5 b.f5] (by simp) 6 10 0 (by omega) (by simp) (by simp) (by omega)
  unfold cmp_Or_int.f
  rw [h]
  exact ⟨_, rfl⟩
def chgCmp (a b : S100) : Int := (deployment_Compare.f 10 a.f0 a.f1 a.f2 a.f3 a.f4 a.f5 b.f0 b.f1 b.f2 b.f3 b.f4 b.f5).getD 0
theorem chgCmp_some (a b : S100) : deployment_Compare.f 10 a.f0 a.f1 a.f2 a.f3 a.f4 a.f5 b.f0 b.f1 b.f2 b.f3 b.f4 b.f5 = some (chgCmp a b) := by
  obtain ⟨r, h⟩ := chgCmp_total a b
  unfold chgCmp
  rw [h]
  rfl
def depCk (l : List S100) : List (Int × Bool) → Nat → Nat → Int
  | _, _, 0 => 0
  | m, i, n + 1 =>
    let c := rd_T100 l i
    if chkOne c ≠ 0 then chkOne c
    else if 0 < i ∧ chgCmp c (rd_T100 l ((i : Int) - 1)) < 0 then 8
    else if (mget m c.f0).getD false = true then 9
    else depCk l (mput m c.f0 true) (i + 1) n
def depCheck (l : List S100) : Int := if l.length > 256 then 6 else depCk l [] 0 l.length
theorem zero4 : ∀ w : World, (zeroValue 4).run Try.prog w = .ok (.bool false) w := fun _ => by kernel_rfl
theorem match_bool {α : Type} [DecidableEq α] (m : List (α × Bool)) (x : α) : ((mget m x).elim (Value.bool false) Value.bool) = Value.bool ((mget m x).getD false) := by
  cases mget m x <;> rfl
theorem checkOne_calls (c : S100) (w : World) : Calls Try.prog 77 #[.agg #[.int .i64 c.f0, .int .i64 c.f1, .int .i64 c.f2, .string c.f3, .string c.f4, .string c.f5]] w fun e w' => e = .returned (.int .i64 (chkOne c)) ∧ Below w.heap.size w w' :=
  deployment_checkOne.calls _ _ _ _ _ _ _ _ w (chkOne_some c)
theorem chgCmp_calls (a b : S100) (w : World) : Calls Try.prog 78 #[.agg #[.int .i64 a.f0, .int .i64 a.f1, .int .i64 a.f2, .string a.f3, .string a.f4, .string a.f5], .agg #[.int .i64 b.f0, .int .i64 b.f1, .int .i64 b.f2, .string b.f3, .string b.f4, .string b.f5]] w fun e w' => e = .returned (.int .i64 (chgCmp a b)) ∧ Below w.heap.size w w' :=
  deployment_Compare.calls _ _ _ _ _ _ _ _ _ _ _ _ _ _ w (chgCmp_some a b)
theorem rd_T100_get (xs : List S100) (k : Nat) (h : k < xs.length) : rd_T100 xs (k : Int) = xs[k] := by
  unfold rd_T100; simp [List.getD_eq_getElem?_getD, h]
set_option maxHeartbeats 4000000 in
set_option maxRecDepth 100000 in
theorem depCheck_calls (A : Option Addr) (cp : Nat) (l : List S100) (w : World) (hr : Kd.C k100 w A l.length l) :
    Calls Try.prog 50 #[.slice A l.length cp] w fun e w' => e = .returned (.int .i64 (depCheck l)) ∧ Below w.heap.size w w' := by
  have hbig : l.length ≤ 9223372036854775807 := hr.2.1
  have HR := Aside0.mk hr
  clear hr
  have hmm := @run_makeMap Try.prog
  by_cases hlen : (256 : Int) < (l.length : Int)
  · have EO : Aside0 (depCheck l = 6) := ⟨by unfold depCheck; rw [if_pos (by omega)]⟩
    go_enter Try.func50, Try.ntmps50
    go_wp2
    go_ret
    exact ⟨by rw [EO.out]; rfl, Below.refl _ _⟩
  · have EO : Aside0 (depCheck l = depCk l [] 0 l.length) := ⟨by unfold depCheck; rw [if_neg (by omega)]⟩
    go_enter Try.func50, Try.ntmps50
    go_wp2
    go_loopg [13] l.length (fun gg s13 wr => ∃ (i : Nat) (m : List (Int × Bool)), i ≤ l.length ∧ l.length - i ≤ gg ∧ s13 = .int .i64 i ∧ Aside0 (depCk l m i (l.length - i) = depCheck l) ∧ Aside0 (MapIs wr w.heap.size (Value.int .i64) Value.bool m) ∧ Aside0 (Below w.heap.size w wr))
    case atStart => exact ⟨0, [], Nat.zero_le _, by omega, by rfl, ⟨EO.out.symm⟩, ⟨MapIs.made _ _ _⟩, ⟨below_alloc (Below.refl _ _) _⟩⟩
    case round =>
      obtain ⟨i, m, hi, hg, rfl, HA, HM, HB⟩ := hrel
      by_cases hlt : i < l.length
      · have hil : (i : Int) < (l.length : Int) := by omega
        have hA := HA.out
        rw [show l.length - i = (l.length - (i + 1)) + 1 from by omega] at hA
        unfold depCk at hA
        dsimp only at hA
        rw [rd_T100_get l i hlt] at hA
        obtain ⟨ad, e, h0, h1, h2, h3, h4, h5⟩ := at_T100 HR.out (i : Int) (by omega) (by omega)
        subst e
        rw [rd_T100_get l i hlt] at h0 h1 h2 h3 h4 h5
        simp only [Int.toNat_natCast] at h0 h1 h2 h3 h4 h5
        replace h0 := (HB.out.cell (World.block_lt_of_cell? w _ h0)).trans h0
        replace h1 := (HB.out.cell (World.block_lt_of_cell? w _ h1)).trans h1
        replace h2 := (HB.out.cell (World.block_lt_of_cell? w _ h2)).trans h2
        replace h3 := (HB.out.cell (World.block_lt_of_cell? w _ h3)).trans h3
        replace h4 := (HB.out.cell (World.block_lt_of_cell? w _ h4)).trans h4
        replace h5 := (HB.out.cell (World.block_lt_of_cell? w _ h5)).trans h5
        have hck := checkOne_calls l[i]
        have hcp := chgCmp_calls l[i] (rd_T100 l ((i : Int) - 1))
        have HX := Aside0.mk (rfl : l[i] = l[i])
        generalize l[i] = c at h0 h1 h2 h3 h4 h5 hA hck hcp
        clear HX
        have HC := Aside0.mk hck
        have HP := Aside0.mk hcp
        clear hck hcp
        by_cases k1 : chkOne c = 0
        · rw [if_neg (by simpa using k1)] at hA
          have k1b : (chkOne c != 0) = false := by simpa using k1
          clear k1
          go_wp2_with fail
          refine (HC.out _).mono ?_
          rintro e w1 ⟨rfl, hb1⟩
          have hz : wr.heap.size + 1 ≤ w1.heap.size := by have := hb1.size; simpa using this
          have q0 : w1.cell? ⟨wr.heap.size, 0, none⟩ = some (.int .i64 c.f0) := (hb1.cell (p := ⟨wr.heap.size, 0, none⟩) (by simp)).trans (by simp)
          have q1 : w1.cell? ⟨wr.heap.size, 1, none⟩ = some (.int .i64 c.f1) := (hb1.cell (p := ⟨wr.heap.size, 1, none⟩) (by simp)).trans (by simp)
          have q2 : w1.cell? ⟨wr.heap.size, 2, none⟩ = some (.int .i64 c.f2) := (hb1.cell (p := ⟨wr.heap.size, 2, none⟩) (by simp)).trans (by simp)
          have q3 : w1.cell? ⟨wr.heap.size, 3, none⟩ = some (.string c.f3) := (hb1.cell (p := ⟨wr.heap.size, 3, none⟩) (by simp)).trans (by simp)
          have q4 : w1.cell? ⟨wr.heap.size, 4, none⟩ = some (.string c.f4) := (hb1.cell (p := ⟨wr.heap.size, 4, none⟩) (by simp)).trans (by simp)
          have q5 : w1.cell? ⟨wr.heap.size, 5, none⟩ = some (.string c.f5) := (hb1.cell (p := ⟨wr.heap.size, 5, none⟩) (by simp)).trans (by simp)
          have HB1 := Aside0.mk (below_step (below_alloc HB.out _) hb1)
          have HM1 := Aside0.mk ((HM.out.alloc _).below hb1)
          clear HB HM h0 h1 h2 h3 h4 h5
          by_cases hi0 : 0 < i
          · obtain ⟨ad', e', p0, p1, p2, p3, p4, p5⟩ := at_T100 HR.out ((i : Int) - 1) (by omega) (by omega)
            cases e'
            generalize rd_T100 l ((i : Int) - 1) = cq at p0 p1 p2 p3 p4 p5 hA HP
            rw [show ((i : Int) - 1).toNat = i - 1 from by omega] at p0 p1 p2 p3 p4 p5
            replace p0 := (HB1.out.cell (World.block_lt_of_cell? w _ p0)).trans p0
            replace p1 := (HB1.out.cell (World.block_lt_of_cell? w _ p1)).trans p1
            replace p2 := (HB1.out.cell (World.block_lt_of_cell? w _ p2)).trans p2
            replace p3 := (HB1.out.cell (World.block_lt_of_cell? w _ p3)).trans p3
            replace p4 := (HB1.out.cell (World.block_lt_of_cell? w _ p4)).trans p4
            replace p5 := (HB1.out.cell (World.block_lt_of_cell? w _ p5)).trans p5
            have g0 : decide ((0 : Int) < (i : Int)) = true := by simpa using hi0
            go_wp2_with fail
            refine wp_region_still_tail 9 (by kernel_rfl) (by kernel_rfl) ?_
            rw [show ({ heap := w1.heap, tape := w1.tape, drawn := w1.drawn + 1, os := w1.os, output := w1.output } : World) = w1.drew from rfl]
            have hd : Below w1.heap.size w1 w1.drew := (Below.refl _ _).drew
            have hz2 : wr.heap.size + 1 ≤ w1.drew.heap.size := hz
            replace p0 := (hd.cell (World.block_lt_of_cell? w1 _ p0)).trans p0
            replace p1 := (hd.cell (World.block_lt_of_cell? w1 _ p1)).trans p1
            replace p2 := (hd.cell (World.block_lt_of_cell? w1 _ p2)).trans p2
            replace p3 := (hd.cell (World.block_lt_of_cell? w1 _ p3)).trans p3
            replace p4 := (hd.cell (World.block_lt_of_cell? w1 _ p4)).trans p4
            replace p5 := (hd.cell (World.block_lt_of_cell? w1 _ p5)).trans p5
            replace q0 := (hd.cell (World.block_lt_of_cell? w1 _ q0)).trans q0
            replace q1 := (hd.cell (World.block_lt_of_cell? w1 _ q1)).trans q1
            replace q2 := (hd.cell (World.block_lt_of_cell? w1 _ q2)).trans q2
            replace q3 := (hd.cell (World.block_lt_of_cell? w1 _ q3)).trans q3
            replace q4 := (hd.cell (World.block_lt_of_cell? w1 _ q4)).trans q4
            replace q5 := (hd.cell (World.block_lt_of_cell? w1 _ q5)).trans q5
            have HB2 := Aside0.mk (below_step HB1.out hd)
            have HM2 := Aside0.mk (HM1.out.below hd)
            clear HB1 HM1 hd hz hb1
            generalize w1.drew = W2 at *
            clear w1
            simp only [List.take_succ_cons, List.take_zero, List.drop_succ_cons, List.drop_zero]
            have s1 : IntKind.i64.wrap ((i : Int) - 1) = (i : Int) - 1 := IntWalk.i64_in _ (by omega)
            have s2 : (0 : Int) ≤ (i : Int) - 1 := by omega
            have s5 : (1 : Int) ≤ (i : Int) := by omega
            have s3 : ((i : Int) - 1).toNat = i - 1 := by omega
            have s4 : (i : Int) - 1 < (l.length : Int) := by omega
            repeat still_step
            refine wpStill_nil ?_
            clear s1 s2 s3 s4 s5
            by_cases k3 : chgCmp c cq < 0
            · rw [if_pos ⟨hi0, k3⟩] at hA
              have hA' := Aside0.mk hA
              clear hA
              go_wp2_with (go_at_call 78; refine (HP.out _).mono ?_; rintro e w2 ⟨rfl, hb2⟩)
              go_ret
              exact ⟨by rw [hA'.out]; rfl, below_step HB2.out hb2⟩
            · rw [if_neg (fun h => k3 h.2)] at hA
              by_cases k2 : (mget m c.f0).getD false = true
              · rw [if_pos k2] at hA
                have hA' := Aside0.mk hA
                clear hA
                go_wp2_with fail
                refine (HP.out _).mono ?_
                rintro e w2 ⟨rfl, hb2⟩
                have HB3 := Aside0.mk (below_step HB2.out hb2)
                have HM3 := Aside0.mk (HM2.out.below hb2)
                replace q0 := (hb2.cell (World.block_lt_of_cell? W2 _ q0)).trans q0
                go_wp2_with (first | (at_lookup; refine wp_look rfl _ _ rfl Try.underlying148 Try.underlying3 (enc_int .i64) HM3.out rfl _ rfl (zero4 _) ?_; rw [match_bool]))
                go_ret
                exact ⟨by rw [hA'.out]; rfl, HB3.out⟩
              · rw [if_neg k2] at hA
                have hA' := Aside0.mk hA
                clear hA
                replace k2 : (mget m c.f0).getD false = false := by simpa using k2
                go_wp2_with fail
                refine (HP.out _).mono ?_
                rintro e w2 ⟨rfl, hb2⟩
                have HB3 := Aside0.mk (below_step HB2.out hb2)
                have HM3 := Aside0.mk (HM2.out.below hb2)
                replace q0 := (hb2.cell (World.block_lt_of_cell? W2 _ q0)).trans q0
                go_wp2_with (first | (at_lookup; refine wp_look rfl _ _ rfl Try.underlying148 Try.underlying3 (enc_int .i64) HM3.out rfl _ rfl (zero4 _) ?_; rw [match_bool]) | (at_mapUpdate; refine wp_store rfl _ _ _ rfl Try.underlying148 Try.underlying3 (enc_int .i64) HM3.out rfl _ true rfl rfl ?_; intro w3 hm3 hg3))
                go_roundg (l.length - (i + 1))
                case measure => omega
                case rel => exact ⟨i + 1, mput m c.f0 true, by omega, Nat.le_refl _, by go_num, ⟨hA'.out⟩, ⟨hm3⟩, ⟨HB3.out.grown hg3 HB3.out.size (fun z hz => by simp at hz; omega)⟩⟩
          · rw [if_neg (fun h => hi0 h.1)] at hA
            have g0 : decide ((0 : Int) < (i : Int)) = false := by simpa using hi0
            by_cases k2 : (mget m c.f0).getD false = true
            · rw [if_pos k2] at hA
              have hA' := Aside0.mk hA
              clear hA
              go_wp2_with fail
              go_quiet (fail)
              go_wp2_with (first | (at_lookup; refine wp_look rfl _ _ rfl Try.underlying148 Try.underlying3 (enc_int .i64) HM1.out rfl _ rfl (zero4 _) ?_; rw [match_bool]))
              go_ret
              exact ⟨by rw [hA'.out]; rfl, pw_below_drewN HB1.out _⟩
            · rw [if_neg k2] at hA
              have hA' := Aside0.mk hA
              clear hA
              replace k2 : (mget m c.f0).getD false = false := by simpa using k2
              go_wp2_with fail
              go_quiet (fail)
              go_wp2_with (first | (at_lookup; refine wp_look rfl _ _ rfl Try.underlying148 Try.underlying3 (enc_int .i64) HM1.out rfl _ rfl (zero4 _) ?_; rw [match_bool]) | (at_mapUpdate; refine wp_store rfl _ _ _ rfl Try.underlying148 Try.underlying3 (enc_int .i64) HM1.out rfl _ true rfl rfl ?_; intro w3 hm3 hg3))
              go_roundg (l.length - (i + 1))
              case measure => omega
              case rel => exact ⟨i + 1, mput m c.f0 true, by omega, Nat.le_refl _, by go_num, ⟨hA'.out⟩, ⟨hm3⟩, ⟨(pw_below_drewN HB1.out _).grown hg3 (pw_below_drewN HB1.out _).size (fun z hz => by simp at hz; omega)⟩⟩
        · rw [if_pos k1] at hA
          have hA' := Aside0.mk hA
          have k1b : (chkOne c != 0) = true := by simpa using k1
          clear hA k1
          go_wp2_with (go_at_call 77; refine (HC.out _).mono ?_; rintro e w1 ⟨rfl, hb1⟩)
          go_ret
          exact ⟨by rw [hA'.out]; rfl, below_step (below_alloc HB.out _) hb1⟩
      · obtain rfl : i = l.length := by omega
        have hA : Aside0 (depCheck l = 0) := ⟨by have := HA.out; rw [Nat.sub_self] at this; rw [← this]; rfl⟩
        go_wp2
        go_ret
        exact ⟨by rw [hA.out]; rfl, HB.out⟩
end Go.Proofs.Ytdadnapfecmmdaa.P
namespace Go.Proofs.Ytdadnapfecmmdaa.P
set_option linter.unusedVariables false
set_option linter.unusedSimpArgs false
open Go.RowKit Go.Proofs.YtdadnapfecmmdaaW.PrintWords Go.Proofs.YtdadnapfecmmdaaW.PrintLast Go.Proofs.YtdadnapfecmmdaaW.PrintMore
def idxBy {α : Type} (p : α → Bool) (l : List α) : Int := match l.findIdx? p with | some i => (i : Int) | none => -1
theorem idxBy_hit {α : Type} (p : α → Bool) (l : List α) (k : Nat) (hk : k < l.length) (h : p l[k] = true) (hn : ∀ j (hj : j < k), p (l[j]'(by omega)) = false) : idxBy p l = (k : Int) := by
  unfold idxBy
  have : l.findIdx? p = some k := by
    rw [List.findIdx?_eq_some_iff_getElem]
    exact ⟨hk, h, fun j hj => by rw [hn j hj]; simp⟩
  rw [this]
theorem idxBy_none {α : Type} (p : α → Bool) (l : List α) (hn : ∀ j (hj : j < l.length), p l[j] = false) : idxBy p l = -1 := by
  unfold idxBy
  have : l.findIdx? p = none := by
    rw [List.findIdx?_eq_none_iff]
    intro x hx
    obtain ⟨j, hj, rfl⟩ := List.getElem_of_mem hx
    exact hn j hj
  rw [this]
theorem off1_calls (x : S91) (clock : Int) (a : Addr) (w : World) (hc : w.cell? a = some (.int .i64 clock)) :
    Calls Try.prog 70 #[.agg #[.int .i64 x.f0, .int .i64 x.f1], .pointer (some a)] w fun e w' => e = .returned (.bool (x.f0 == clock)) ∧ Below w.heap.size w w' := by
  have hlt := World.block_lt_of_cell? w a hc
  have hne : a.block ≠ w.heap.size := by omega
  obtain ⟨f0, f1⟩ := x
  dsimp only
  go_enter Try.func70, Try.ntmps70
  go_wp2
  all_goals (go_ret; exact ⟨by simp_all, (Below.refl _ _).alloc (Nat.le_refl _) _⟩)
theorem rd_T91_get (xs : List S91) (k : Nat) (h : k < xs.length) : rd_T91 xs (k : Int) = xs[k] := by
  unfold rd_T91; simp [List.getD_eq_getElem?_getD, h]
set_option maxHeartbeats 1000000 in
theorem idx69_calls (A : Option Addr) (c : Nat) (l : List S91) (g : Nat) (lb : Array Value) (p : S91 → Bool) (w : World) (_hl : l.length ≤ c) (hr : Kd.C k91 w A l.length l)
    (eg : ∀ args w, (callFunc g args).run Try.prog w = .ok (.enter g args) w)
    (hp : ∀ (W : World) (x : S91), Below w.heap.size w W → Calls Try.prog g (#[.agg #[.int .i64 x.f0, .int .i64 x.f1]] ++ lb) W fun e w' => e = .returned (.bool (p x)) ∧ Below W.heap.size W w') :
    Calls Try.prog 69 #[.slice A l.length c, .func (.func g) #[] lb] w fun e w' => e = .returned (.int .i64 (idxBy p l)) ∧ Below w.heap.size w w' := by
  have hbig : l.length ≤ 9223372036854775807 := hr.2.1
  have HR := Aside0.mk hr
  have HP := Aside0.mk hp
  clear hp hr
  go_enter Try.func69, Try.ntmps69
  go_wp2
  go_loopg [5, 8] l.length (fun gg _ s8 wr => ∃ kk : Nat, kk ≤ l.length ∧ l.length - kk ≤ gg ∧ s8 = .int .i64 kk ∧ Aside0 (Below w.heap.size w wr) ∧ Aside0 (∀ j (_ : j < kk) (hj : j < l.length), p (l[j]) = false))
  case atStart => exact ⟨0, Nat.zero_le _, by omega, rfl, ⟨Below.refl _ w⟩, ⟨fun j hj => absurd hj (Nat.not_lt_zero _)⟩⟩
  case round =>
    obtain ⟨kk, hkk, hg, rfl, BW, AN⟩ := hrel
    by_cases hlt : kk < l.length
    · obtain ⟨ad, e, h0, h1⟩ := at_T91 HR.out (kk : Int) (by omega) (by omega)
      subst e
      rw [rd_T91_get l kk hlt] at h0 h1
      simp only [Int.toNat_natCast] at h0 h1
      have hcall := HP.out wr l[kk] BW.out
      replace h0 := (BW.out.cell (World.block_lt_of_cell? w _ h0)).trans h0
      replace h1 := (BW.out.cell (World.block_lt_of_cell? w _ h1)).trans h1
      have hltz : (kk : Int) < (l.length : Int) := by omega
      generalize hy : l[kk] = y at h0 h1 hcall
      have B := Aside0.mk hy
      clear hy
      cases hq : p y with
      | true =>
        rw [hq] at hcall
        go_wp2_with fail
        refine hcall.mono ?_
        rintro e w' ⟨rfl, hb'⟩
        go_wp2_with fail
        go_ret
        refine ⟨?_, below_step BW.out hb'⟩
        rw [idxBy_hit p l kk hlt (by rw [B.out]; exact hq) (fun j hj => AN.out j hj (by omega))]
        rfl
      | false =>
        rw [hq] at hcall
        go_wp2_with fail
        refine hcall.mono ?_
        rintro e w' ⟨rfl, hb'⟩
        go_wp2_with fail
        go_roundg (l.length - (kk + 1))
        case rel => exact ⟨kk + 1, by omega, Nat.le_refl _, by go_num, ⟨below_step BW.out hb'⟩, ⟨fun j hj hjl => by
          by_cases hjk : j < kk
          · exact AN.out j hjk hjl
          · obtain rfl : j = kk := by omega
            rw [B.out]; exact hq⟩⟩
        case measure => omega
    · obtain rfl : kk = l.length := by omega
      go_wp2
      go_ret
      exact ⟨by rw [idxBy_none p l (fun j hj => AN.out j hj hj)]; rfl, BW.out⟩
structure Cfg where
  seed : Int
  sv : List S64
  off : List S91
  ch : List S100
  fl : List S61
  sfrom : Int
  sto : Int
  per : Int
  delay : Int
  chunk : Int
  loss : Int
  rep : Int
structure CfgAt where
  A1 : Option Addr
  c1 : Nat
  A2 : Option Addr
  c2 : Nat
  A3 : Option Addr
  c3 : Nat
  A4 : Option Addr
  c4 : Nat
abbrev Cfg.val (c : Cfg) (p : CfgAt) : Value := .agg #[.int .i64 c.seed, .slice p.A1 c.sv.length p.c1, .slice p.A2 c.off.length p.c2, .slice p.A3 c.ch.length p.c3, .slice p.A4 c.fl.length p.c4, .int .i64 c.sfrom, .int .i64 c.sto, .int .i64 c.per, .int .i64 c.delay, .int .i64 c.chunk, .int .i64 c.loss, .int .i64 c.rep]
structure CfgR (w : World) (p : CfgAt) (c : Cfg) : Prop where
  r1 : Kd.C k64 w p.A1 c.sv.length c.sv
  l1 : c.sv.length ≤ p.c1
  r2 : Kd.C k91 w p.A2 c.off.length c.off
  l2 : c.off.length ≤ p.c2
  r3 : Kd.C k100 w p.A3 c.ch.length c.ch
  l3 : c.ch.length ≤ p.c3
  r4 : Kd.C k61 w p.A4 c.fl.length c.fl
  l4 : c.fl.length ≤ p.c4
theorem CfgR.below {w w1 : World} {p : CfgAt} {c : Cfg} (h : CfgR w p c) (hb : Below w.heap.size w w1) : CfgR w1 p c :=
  ⟨Kd.C_below h.r1 hb, h.l1, Kd.C_below h.r2 hb, h.l2, Kd.C_below h.r3 hb, h.l3, Kd.C_below h.r4 hb, h.l4⟩
def offIdx (l : List S91) (clock : Int) : Int := idxBy (fun x : S91 => x.f0 == clock) l
theorem idxBy_range {α : Type} (p : α → Bool) (l : List α) : idxBy p l = -1 ∨ (0 ≤ idxBy p l ∧ idxBy p l < l.length) := by
  unfold idxBy
  cases h : l.findIdx? p with
  | none => exact .inl rfl
  | some i =>
    rw [List.findIdx?_eq_some_iff_getElem] at h
    obtain ⟨hi, _⟩ := h
    exact .inr ⟨by simp, by simpa using hi⟩
def offOf (l : List S91) (clock : Int) : Int × Bool := if offIdx l clock < 0 then (0, false) else ((rd_T91 l (offIdx l clock)).f1, true)
set_option maxHeartbeats 1000000 in
theorem offset_calls (c : Cfg) (p : CfgAt) (clock : Int) (w : World) (hR : CfgR w p c) :
    Calls Try.prog 38 #[c.val p, .int .i64 clock] w fun e w' => e = .returned (.tuple #[.int .i64 (offOf c.off clock).1, .bool (offOf c.off clock).2]) ∧ Below w.heap.size w w' := by
  have eg : ∀ args w, (callFunc 70 args).run Try.prog w = .ok (.enter 70 args) w := fun args w => enters_ Try.func70 (by kernel_rfl) rfl args w
  have HR := Aside0.mk hR
  clear hR
  have hb0 : Below w.heap.size w ((w.alloc (.cells #[.int .i64 c.seed, .slice p.A1 c.sv.length p.c1, .slice p.A2 c.off.length p.c2, .slice p.A3 c.ch.length p.c3, .slice p.A4 c.fl.length p.c4, .int .i64 c.sfrom, .int .i64 c.sto, .int .i64 c.per, .int .i64 c.delay, .int .i64 c.chunk, .int .i64 c.loss, .int .i64 c.rep] 31)).alloc (.cells #[.int .i64 clock] 3)) := below_alloc (below_alloc (Below.refl _ _) _) _
  have hcon := idx69_calls p.A2 p.c2 c.off 70 #[.pointer (some ⟨w.heap.size + 1, 0, none⟩)] (fun x => x.f0 == clock) _ HR.out.l2 (Kd.C_below HR.out.r2 hb0) eg (fun W x hb => off1_calls x clock ⟨w.heap.size + 1, 0, none⟩ W ((hb.cell (p := ⟨w.heap.size + 1, 0, none⟩) (by simp)).trans (by simp)))
  have hrg := idxBy_range (fun x : S91 => x.f0 == clock) c.off
  have EO : Aside0 (offOf c.off clock = if idxBy (fun x : S91 => x.f0 == clock) c.off < 0 then (0, false) else ((rd_T91 c.off (idxBy (fun x : S91 => x.f0 == clock) c.off)).f1, true)) := ⟨rfl⟩
  have HB0 := Aside0.mk hb0
  clear hb0
  generalize idxBy (fun x : S91 => x.f0 == clock) c.off = r at hcon hrg EO
  go_enter Try.func38, Try.ntmps38
  go_wp2_with fail
  refine hcon.mono ?_
  rintro e w1 ⟨rfl, hb1⟩
  have hz : w.heap.size + 2 ≤ w1.heap.size := by have := hb1.size; simpa using this
  have HB1 := Aside0.mk (HB0.out.trans (hb1.mono (by simp; omega)))
  by_cases hneg : r < 0
  · go_wp2
    go_ret2
    refine ⟨?_, HB1.out⟩
    rw [EO.out, if_pos hneg]
    rfl
  · obtain ⟨ad, e, h0, h1⟩ := at_T91 HR.out.r2 r (by omega) (by omega)
    have q : w1.cell? ⟨w.heap.size, 2, none⟩ = some (.slice p.A2 c.off.length p.c2) := (hb1.cell (p := ⟨w.heap.size, 2, none⟩) (by simp; omega)).trans (by simp)
    replace h1 := (HB1.out.cell (World.block_lt_of_cell? w _ h1)).trans h1
    have hr0 : 0 ≤ r := by omega
    have hr1 : r < (c.off.length : Int) := by omega
    rw [e] at q
    go_wp2
    go_ret2
    refine ⟨?_, HB1.out⟩
    rw [EO.out, if_neg (by omega)]
    rfl
theorem idx1_calls (x : S64) (A5 : Option Addr) (c5 : Nat) (name : ByteArray) (a : Addr) (w : World) (hc : w.cell? a = some (.string name)) :
    Calls Try.prog 105 #[.agg #[.string x.f0, .int .i64 x.f1, .int .i64 x.f2, .int .i64 x.f3, .int .i64 x.f4, .slice A5 x.f5.length c5], .pointer (some a)] w fun e w' => e = .returned (.bool (x.f0.toList == name.toList)) ∧ Below w.heap.size w w' := by
  have hlt := World.block_lt_of_cell? w a hc
  have hne : a.block ≠ w.heap.size := by omega
  obtain ⟨f0, f1, f2, f3, f4, f5⟩ := x
  dsimp only
  generalize f5.length = n5
  go_enter Try.func105, Try.ntmps105
  go_wp2
  all_goals (go_ret; exact ⟨by simp_all, (Below.refl _ _).alloc (Nat.le_refl _) _⟩)
theorem rd_T64_get (xs : List S64) (k : Nat) (h : k < xs.length) : rd_T64 xs (k : Int) = xs[k] := by
  unfold rd_T64; simp [List.getD_eq_getElem?_getD, h]
set_option maxHeartbeats 1000000 in
theorem idx104_calls (A : Option Addr) (c : Nat) (l : List S64) (g : Nat) (lb : Array Value) (p : S64 → Bool) (w : World) (_hl : l.length ≤ c) (hr : Kd.C k64 w A l.length l)
    (eg : ∀ args w, (callFunc g args).run Try.prog w = .ok (.enter g args) w)
    (hp : ∀ (W : World) (x : S64) (A5 : Option Addr) (c5 : Nat), Below w.heap.size w W → Calls Try.prog g (#[.agg #[.string x.f0, .int .i64 x.f1, .int .i64 x.f2, .int .i64 x.f3, .int .i64 x.f4, .slice A5 x.f5.length c5]] ++ lb) W fun e w' => e = .returned (.bool (p x)) ∧ Below W.heap.size W w') :
    Calls Try.prog 104 #[.slice A l.length c, .func (.func g) #[] lb] w fun e w' => e = .returned (.int .i64 (idxBy p l)) ∧ Below w.heap.size w w' := by
  have hbig : l.length ≤ 9223372036854775807 := hr.2.1
  have HR := Aside0.mk hr
  have HP := Aside0.mk hp
  clear hp hr
  go_enter Try.func104, Try.ntmps104
  go_wp2
  go_loopg [5, 8] l.length (fun gg _ s8 wr => ∃ kk : Nat, kk ≤ l.length ∧ l.length - kk ≤ gg ∧ s8 = .int .i64 kk ∧ Aside0 (Below w.heap.size w wr) ∧ Aside0 (∀ j (_ : j < kk) (hj : j < l.length), p (l[j]) = false))
  case atStart => exact ⟨0, Nat.zero_le _, by omega, rfl, ⟨Below.refl _ w⟩, ⟨fun j hj => absurd hj (Nat.not_lt_zero _)⟩⟩
  case round =>
    obtain ⟨kk, hkk, hg, rfl, BW, AN⟩ := hrel
    by_cases hlt : kk < l.length
    · obtain ⟨ad, A5, c5, e, h0, h1, h2, h3, h4, h5, _, _⟩ := at_T64 HR.out (kk : Int) (by omega) (by omega)
      subst e
      rw [rd_T64_get l kk hlt] at h0 h1 h2 h3 h4 h5
      simp only [Int.toNat_natCast] at h0 h1 h2 h3 h4 h5
      have hcall := HP.out wr l[kk] A5 c5 BW.out
      replace h0 := (BW.out.cell (World.block_lt_of_cell? w _ h0)).trans h0
      replace h1 := (BW.out.cell (World.block_lt_of_cell? w _ h1)).trans h1
      replace h2 := (BW.out.cell (World.block_lt_of_cell? w _ h2)).trans h2
      replace h3 := (BW.out.cell (World.block_lt_of_cell? w _ h3)).trans h3
      replace h4 := (BW.out.cell (World.block_lt_of_cell? w _ h4)).trans h4
      replace h5 := (BW.out.cell (World.block_lt_of_cell? w _ h5)).trans h5
      have hltz : (kk : Int) < (l.length : Int) := by omega
      generalize hy : l[kk] = y at h0 h1 h2 h3 h4 h5 hcall
      have B := Aside0.mk hy
      clear hy
      generalize y.f5.length = n5 at h5 hcall
      cases hq : p y with
      | true =>
        rw [hq] at hcall
        go_wp2_with fail
        refine hcall.mono ?_
        rintro e w' ⟨rfl, hb'⟩
        go_wp2_with fail
        go_ret
        refine ⟨?_, below_step BW.out hb'⟩
        rw [idxBy_hit p l kk hlt (by rw [B.out]; exact hq) (fun j hj => AN.out j hj (by omega))]
        rfl
      | false =>
        rw [hq] at hcall
        go_wp2_with fail
        refine hcall.mono ?_
        rintro e w' ⟨rfl, hb'⟩
        go_wp2_with fail
        go_roundg (l.length - (kk + 1))
        case rel => exact ⟨kk + 1, by omega, Nat.le_refl _, by go_num, ⟨below_step BW.out hb'⟩, ⟨fun j hj hjl => by
          by_cases hjk : j < kk
          · exact AN.out j hjk hjl
          · obtain rfl : j = kk := by omega
            rw [B.out]; exact hq⟩⟩
        case measure => omega
    · obtain rfl : kk = l.length := by omega
      go_wp2
      go_ret
      exact ⟨by rw [idxBy_none p l (fun j hj => AN.out j hj hj)]; rfl, BW.out⟩
def svIdx (l : List S64) (name : ByteArray) : Int := idxBy (fun x : S64 => x.f0.toList == name.toList) l
set_option maxHeartbeats 1000000 in
theorem index_calls (c : Cfg) (p : CfgAt) (name : ByteArray) (w : World) (hR : CfgR w p c) :
    Calls Try.prog 80 #[c.val p, .string name] w fun e w' => e = .returned (.int .i64 (svIdx c.sv name)) ∧ Below w.heap.size w w' := by
  have eg : ∀ args w, (callFunc 105 args).run Try.prog w = .ok (.enter 105 args) w := fun args w => enters_ Try.func105 (by kernel_rfl) rfl args w
  have HR := Aside0.mk hR
  clear hR
  have hb0 : Below w.heap.size w ((w.alloc (.cells #[.int .i64 c.seed, .slice p.A1 c.sv.length p.c1, .slice p.A2 c.off.length p.c2, .slice p.A3 c.ch.length p.c3, .slice p.A4 c.fl.length p.c4, .int .i64 c.sfrom, .int .i64 c.sto, .int .i64 c.per, .int .i64 c.delay, .int .i64 c.chunk, .int .i64 c.loss, .int .i64 c.rep] 31)).alloc (.cells #[.string name] 9)) := below_alloc (below_alloc (Below.refl _ _) _) _
  have hcon := idx104_calls p.A1 p.c1 c.sv 105 #[.pointer (some ⟨w.heap.size + 1, 0, none⟩)] (fun x => x.f0.toList == name.toList) _ HR.out.l1 (Kd.C_below HR.out.r1 hb0) eg (fun W x A5 c5 hb => idx1_calls x A5 c5 name ⟨w.heap.size + 1, 0, none⟩ W ((hb.cell (p := ⟨w.heap.size + 1, 0, none⟩) (by simp)).trans (by simp)))
  have EO : Aside0 (svIdx c.sv name = idxBy (fun x : S64 => x.f0.toList == name.toList) c.sv) := ⟨rfl⟩
  have HB0 := Aside0.mk hb0
  clear hb0
  generalize idxBy (fun x : S64 => x.f0.toList == name.toList) c.sv = r at hcon EO
  go_enter Try.func80, Try.ntmps80
  go_wp2_with fail
  refine hcon.mono ?_
  rintro e w1 ⟨rfl, hb1⟩
  have HB1 := Aside0.mk (HB0.out.trans (hb1.mono (by simp; omega)))
  go_wp2
  go_ret
  refine ⟨?_, HB1.out⟩
  rw [EO.out]
  rfl
end Go.Proofs.Ytdadnapfecmmdaa.P
namespace Go.Proofs.Ytdadnapfecmmdaa.P
set_option linter.unusedVariables false
set_option linter.unusedSimpArgs false
open Go.RowKit Go.Proofs.YtdadnapfecmmdaaW.PrintWords Go.Proofs.YtdadnapfecmmdaaW.PrintLast Go.Proofs.YtdadnapfecmmdaaW.PrintMore
open Go.Proofs.Ytdadnapfecmmdaa.Hm
def cntName (m : List (ByteArray × Int)) (name : ByteArray) : Int := (mget m name).getD 0
def cntSum (m : List (ByteArray × Int)) : List ByteArray → Int → Int
  | [], n => n
  | x :: r, n => cntSum m r (wrap64 (n + wrap64 (1 + cntName m x)))
def cntMap : List S64 → List (ByteArray × Int)
  | [] => []
  | s :: r => mput (cntMap r) s.f0 (cntSum (cntMap r) s.f5 1)
theorem cntSum_step (m : List (ByteArray × Int)) (l : List ByteArray) (n : Int) (j : Nat) (h : j < l.length) : cntSum m (l.drop j) n = cntSum m (l.drop (j + 1)) (wrap64 (n + wrap64 (1 + cntName m l[j]))) := by
  rw [List.drop_eq_getElem_cons h]
  rfl
theorem cntMap_step (l : List S64) (k : Nat) (h : k < l.length) : cntMap (l.drop k) = mput (cntMap (l.drop (k + 1))) l[k].f0 (cntSum (cntMap (l.drop (k + 1))) l[k].f5 1) := by
  conv => lhs; rw [List.drop_eq_getElem_cons h]
  rfl
def cntOf (l : List S64) : Int := cntName (cntMap l) (rd_T64 l 0).f0
theorem zero3 : ∀ w : World, (zeroValue 3).run Try.prog w = .ok (.int .i64 0) w := fun _ => by kernel_rfl
theorem match_int (m : List (ByteArray × Int)) (x : ByteArray) : ((mget m x).elim (Value.int .i64 0) (Value.int .i64)) = Value.int .i64 (cntName m x) := by
  unfold cntName
  cases mget m x <;> rfl
theorem string_at {w : World} {A : Option Addr} {n : Nat} {xs : List ByteArray} (h : Kd.C Kd.string w A n xs) (i : Nat) (hi : i < xs.length) : ∃ ad, A = some ad ∧ w.cell? (ad.add i) = some (.string xs[i]) := by
  obtain ⟨ad, e, hc⟩ := h.2.2 (by have := h.1; omega)
  obtain ⟨c, hl, hk, hcell⟩ := hc i xs[i] (by simp [hi])
  have hk' : c = [.string xs[i]] := hk
  subst hk'
  refine ⟨ad, e, ?_⟩
  have := hcell 0 _ rfl
  have h1 : (Kd.string).sz = 1 := rfl
  rw [h1] at this
  simpa using this
abbrev Cfg.cells (c : Cfg) (p : CfgAt) : Array Value := #[.int .i64 c.seed, .slice p.A1 c.sv.length p.c1, .slice p.A2 c.off.length p.c2, .slice p.A3 c.ch.length p.c3, .slice p.A4 c.fl.length p.c4, .int .i64 c.sfrom, .int .i64 c.sto, .int .i64 c.per, .int .i64 c.delay, .int .i64 c.chunk, .int .i64 c.loss, .int .i64 c.rep]
set_option maxHeartbeats 4000000 in
set_option maxRecDepth 100000 in
theorem count_calls (c : Cfg) (p : CfgAt) (w : World) (hR : CfgR w p c) (hne : 1 ≤ c.sv.length) :
    Calls Try.prog 43 #[c.val p] w fun e w' => e = .returned (.int .i64 (cntOf c.sv)) ∧ Below w.heap.size w w' := by
  have HR := Aside0.mk hR.r1
  have hbig : c.sv.length ≤ 9223372036854775807 := hR.r1.2.1
  clear hR
  obtain ⟨A1, c1, A2, c2, A3, c3, A4, c4⟩ := p
  have hmm := @run_makeMap Try.prog
  change Aside0 (Kd.C k64 w A1 c.sv.length c.sv) at HR
  go_enter Try.func43, Try.ntmps43
  go_wp2
  go_loopg [4] c.sv.length (fun gg s4 wr => ∃ (k : Nat) (i : Int), k ≤ c.sv.length ∧ k ≤ gg ∧ s4 = .int .i64 i ∧ Aside0 (i = (k : Int) - 1) ∧ Aside0 (wr.heap[w.heap.size]? = some (.cells (c.cells ⟨A1, c1, A2, c2, A3, c3, A4, c4⟩) 31 (0, 0))) ∧ Aside0 (MapIs wr (w.heap.size + 1) Value.string (Value.int .i64) (cntMap (c.sv.drop k))) ∧ Aside0 (Below w.heap.size w wr))
  case atStart =>
    refine ⟨c.sv.length, (c.sv.length : Int) - 1, Nat.le_refl _, Nat.le_refl _, by simp, ⟨rfl⟩, ⟨?_⟩, ⟨?_⟩, ⟨below_alloc (below_alloc (Below.refl _ _) _) _⟩⟩
    · exact blk_alloc (blk_new w _) _
    · have h := MapIs.made (w.alloc (.cells (c.cells ⟨A1, c1, A2, c2, A3, c3, A4, c4⟩) 31)) Value.string (Value.int .i64)
      have h' : MapIs ((w.alloc (.cells (c.cells ⟨A1, c1, A2, c2, A3, c3, A4, c4⟩) 31)).alloc (.map #[] 0)) (w.heap.size + 1) Value.string (Value.int .i64) ([] : List (ByteArray × Int)) := by simpa using h
      rw [List.drop_length]
      exact h'
  case round =>
    obtain ⟨k, i0, hk, hgk, rfl, HI, BK, HM, HB⟩ := hrel
    have q1 : wr.cell? ⟨w.heap.size, 1, none⟩ = some (.slice A1 c.sv.length c1) := (blk_cell BK.out 1).trans rfl
    cases k with
    | zero =>
      obtain rfl : i0 = -1 := by have := HI.out; omega
      obtain ⟨ad, A5, c5, e, h0, _⟩ := at_T64 HR.out 0 (by omega) (by omega)
      subst e
      rw [show ad.add ((0 : Int).toNat * 6) = ad from by simp [Addr.add]] at h0
      replace h0 := (HB.out.cell (World.block_lt_of_cell? w _ h0)).trans h0
      have EO : Aside0 (cntOf c.sv = cntName (cntMap (c.sv.drop 0)) (rd_T64 c.sv 0).f0) := ⟨rfl⟩
      go_wp2_with (first | (at_lookup; go_loud (refine wp_look rfl _ _ rfl Try.underlying144 Try.underlying9 enc_string HM.out rfl _ rfl (zero3 _) ?_); go_loud (rw [match_int])))
      go_ret
      exact ⟨by rw [EO.out]; rfl, HB.out⟩
    | succ j =>
      obtain rfl : i0 = (j : Int) := by have := HI.out; omega
      obtain ⟨ad, A5, c5, e, h0, _, _, _, _, h5, l5, k5⟩ := at_T64 HR.out (j : Int) (by omega) (by omega)
      subst e
      rw [rd_T64_get c.sv j (by omega)] at h0 h5 l5 k5
      simp only [Int.toNat_natCast] at h0 h5
      replace h0 := (HB.out.cell (World.block_lt_of_cell? w _ h0)).trans h0
      replace h5 := (HB.out.cell (World.block_lt_of_cell? w _ h5)).trans h5
      have K5 := Aside0.mk (Kd.C_below k5 HB.out)
      have n5 : c.sv[j].f5.length ≤ 9223372036854775807 := k5.2.1
      clear k5
      have hj1 : (j : Int) < (c.sv.length : Int) := by omega
      have HS := Aside0.mk (cntMap_step c.sv j (by omega))
      generalize hx : c.sv[j] = x at h0 h5 l5 K5 n5 HS
      clear hx
      generalize hM : cntMap (c.sv.drop (j + 1)) = M at HM HS
      clear hM
      go_wp2_with (first | (at_lookup; refine wp_look rfl _ _ rfl Try.underlying144 Try.underlying9 enc_string HM.out rfl _ rfl (zero3 _) ?_; rw [match_int]))
      obtain ⟨wo, rfl⟩ : ∃ wo : World, wo = wr := ⟨_, rfl⟩
      go_loopg [5, 24] x.f5.length (fun gg s5 s24 w2 => ∃ (i : Nat) (acc : Int), i ≤ x.f5.length ∧ x.f5.length - i ≤ gg ∧ s24 = .int .i64 i ∧ s5 = .int .i64 acc ∧ Aside0 (cntSum M (x.f5.drop i) acc = cntSum M x.f5 1) ∧ Aside0 (w2.heap[w.heap.size]? = some (.cells (c.cells ⟨some ad, c1, A2, c2, A3, c3, A4, c4⟩) 31 (0, 0))) ∧ Aside0 (MapIs w2 (w.heap.size + 1) Value.string (Value.int .i64) M) ∧ Aside0 (Below w.heap.size w w2) ∧ Aside0 (Below wo.heap.size wo w2))
      case atStart => exact ⟨0, 1, Nat.zero_le _, by omega, by rfl, rfl, ⟨rfl⟩, BK, HM, HB, ⟨Below.refl _ _⟩⟩
      case round =>
        clear BK HM HB q1
        obtain ⟨i, acc, hi, hgi, rfl, rfl, HA, BK, HM, HB, HW⟩ := hrel
        have q1 : wr.cell? ⟨w.heap.size, 1, none⟩ = some (.slice (some ad) c.sv.length c1) := (blk_cell BK.out 1).trans rfl
        replace h0 := (HW.out.cell (World.block_lt_of_cell? wo _ h0)).trans h0
        replace h5 := (HW.out.cell (World.block_lt_of_cell? wo _ h5)).trans h5
        by_cases hlt : i < x.f5.length
        · have hil : (i : Int) < (x.f5.length : Int) := by omega
          obtain ⟨ad5, e5, g5⟩ := string_at K5.out i hlt
          subst e5
          replace g5 := (HW.out.cell (World.block_lt_of_cell? wo _ g5)).trans g5
          have HT := Aside0.mk (cntSum_step M x.f5 acc i hlt)
          generalize x.f5[i] = nm at g5 HT
          go_wp2_with (first | (at_lookup; refine wp_look rfl _ _ rfl Try.underlying144 Try.underlying9 enc_string HM.out rfl _ rfl (zero3 _) ?_; rw [match_int]))
          go_roundg (x.f5.length - (i + 1))
          case measure => omega
          case rel => exact ⟨i + 1, wrap64 (acc + wrap64 (1 + cntName M nm)), by omega, Nat.le_refl _, by go_num, rfl, ⟨HT.out.symm.trans HA.out⟩, BK, HM, HB, HW⟩
        · obtain rfl : i = x.f5.length := by omega
          have hacc : Aside0 (acc = cntSum M x.f5 1) := ⟨by have := HA.out; rwa [List.drop_length] at this⟩
          go_wp2_with (first | (at_mapUpdate; refine wp_store rfl _ _ _ rfl Try.underlying144 Try.underlying9 enc_string HM.out rfl _ _ rfl rfl ?_; intro w3 hm3 hg3))
          go_roundg j
          case measure => omega
          case rel =>
            refine ⟨j, (j : Int) - 1, by omega, Nat.le_refl _, by rfl, ⟨rfl⟩, ⟨blk_grown BK.out hg3 (by simp)⟩, ⟨?_⟩, ⟨HB.out.grown hg3 HB.out.size (fun z hz => by simp at hz; omega)⟩⟩
            rw [HS.out, ← hacc.out]
            exact hm3
def fstE (e : Nat → Int) : Nat → Int
  | 0 => 0
  | n + 1 => if fstE e n = 0 then e n else fstE e n
theorem fstE_zero (e : Nat → Int) : ∀ n, (∀ j, j < n → e j = 0) → fstE e n = 0
  | 0, _ => rfl
  | n + 1, h => by
    unfold fstE
    rw [if_pos (fstE_zero e n (fun j hj => h j (by omega)))]
    exact h n (by omega)
theorem fstE_hit (e : Nat → Int) (i : Nat) (h : ∀ j, j < i → e j = 0) (he : e i ≠ 0) : ∀ n, i < n → fstE e n = e i
  | 0, hi => by omega
  | n + 1, hi => by
    unfold fstE
    by_cases hn : i < n
    · rw [fstE_hit e i h he n hn, if_neg he]
    · obtain rfl : i = n := by omega
      rw [if_pos (fstE_zero e i h)]
theorem fstE_all (e : Nat → Int) : ∀ n, fstE e n = 0 → ∀ j, j < n → e j = 0
  | 0, _, j, hj => by omega
  | n + 1, h, j, hj => by
    unfold fstE at h
    split at h
    · rename_i h0
      by_cases hn : j < n
      · exact fstE_all e n h0 j hn
      · obtain rfl : j = n := by omega
        exact h
    · contradiction
def nameB (s : ByteArray) : Bool := (attribute_IsName.f 70 s).getD false
theorem nameB_calls (s : ByteArray) (w : World) : Calls Try.prog 51 #[.string s] w fun e w' => e = .returned (.bool (nameB s)) ∧ Below w.heap.size w w' := by
  obtain ⟨b, hb⟩ := isName_total s
  have h := hb 0
  rw [Nat.zero_add] at h
  have e : nameB s = b := by unfold nameB; rw [h]; rfl
  rw [e]
  refine (attribute_IsName.calls 70 s b w h).mono ?_
  rintro e w' ⟨rfl, hb⟩
  first | exact ⟨rfl, hb⟩ | (obtain ⟨nd, rfl⟩ := hb; exact ⟨rfl, pw_below_drewN (Below.refl _ _) nd⟩)
def bad (n a b : Int) : Bool := decide (n < a ∨ b < n)
def svX (nb : Bool) (x : S64) (ix : Int) (i : Nat) : Int :=
  if nb = false then 11 else if ix < i then 9
  else if (bad x.f1 1 1048576 || bad x.f2 0 1048576 || bad x.f3 0 1048576 || bad x.f4 0 1000000) = true then 2
  else if 8 < x.f5.length then 6 else 0
def svE (l : List S64) (i : Nat) : Int := svX (nameB (rd_T64 l i).f0) (rd_T64 l i) (svIdx l (rd_T64 l i).f0) i
def callX (ix : Int) (i : Nat) : Int := if ix < 0 then 16 else if ix ≤ i then 8 else 0
def callE (l : List S64) (i k : Nat) : Int := callX (svIdx l (rdOf ByteArray.empty (rd_T64 l i).f5 k)) i
def callsE (l : List S64) (i : Nat) : Int := fstE (callE l i) (rd_T64 l i).f5.length
def ckSv (l : List S64) : Int := if fstE (svE l) l.length = 0 then fstE (callsE l) l.length else fstE (svE l) l.length
def offX (x : S91) (y : Int) (i : Nat) : Int :=
  if (bad x.f0 1 1048576 || bad x.f1 (-1048576) 1048576) = true then 2 else if 0 < i ∧ x.f0 ≤ y then 8 else 0
def offE (l : List S91) (i : Nat) : Int := offX (rd_T91 l i) (rd_T91 l ((i : Int) - 1)).f0 i
def gapX (is : Bool) : Int := if is = true then 0 else 34
def gapE (l : List S91) (sv : List S64) (i : Nat) : Int := gapX (offOf l (rd_T64 sv i).f1).2
def ckOff (l : List S91) (sv : List S64) : Int := if fstE (offE l) l.length = 0 then fstE (gapE l sv) sv.length else fstE (offE l) l.length
def flX (ix : Int) (nb : Bool) (x : S61) : Int :=
  if ix < 0 then 16 else if x.f1.toList ≠ [] ∧ nb = false then 11
  else if x.f2.f0 < 0 ∨ x.f2.f1 ≤ x.f2.f0 ∨ 1048577 < x.f2.f1 then 32
  else if (bad x.f3 0 1048576 || bad x.f4 0 1000000) = true then 2 else 0
def flE (sv : List S64) (l : List S61) (i : Nat) : Int := flX (svIdx sv (rd_T61 l i).f0) (nameB (rd_T61 l i).f1) (rd_T61 l i)
def ckFl (sv : List S64) (l : List S61) : Int := fstE (flE sv l) l.length
def ckRst (c : Cfg) : Int :=
  if c.sfrom < 0 ∨ c.sto < c.sfrom ∨ 1048576 < c.sto then 32 else if 64 < c.sto - c.sfrom then 6
  else if (bad c.per 0 16 || bad c.delay 0 1048576 || bad c.chunk 1 64 || bad c.loss 0 1000000 || bad c.rep 0 1000000) = true then 2
  else if 256 < cntOf c.sv then 6 else 0
def ckT (c : Cfg) : Int :=
  if c.seed < 0 ∨ 1048576 < c.seed then 2 else if c.sv.length = 0 then 7 else if 16 < c.sv.length ∨ 16 < c.fl.length then 6
  else if ckSv c.sv ≠ 0 then ckSv c.sv else if ckOff c.off c.sv ≠ 0 then ckOff c.off c.sv else if depCheck c.ch ≠ 0 then depCheck c.ch
  else if ckFl c.sv c.fl ≠ 0 then ckFl c.sv c.fl else ckRst c
end Go.Proofs.Ytdadnapfecmmdaa.P
namespace Go.Proofs.Ytdadnapfecmmdaa.P
open Go.RowKit Go.Proofs.YtdadnapfecmmdaaW.PrintWords Go.Proofs.YtdadnapfecmmdaaW.PrintLast Go.Proofs.YtdadnapfecmmdaaW.PrintMore
attribute [local go_sem] max2_int min2_int max_two min_two max_three min_three max_four min_four   -- for this text's walks alone
set_option linter.unusedVariables false
set_option linter.unusedSimpArgs false
def simulate_outside.f (a0 : Int) (a1 : Int) (a2 : Int) : Option (Bool) := if a0 < a1 then (some true) else (some (decide (a0 > a2)))
set_option maxHeartbeats 8000000 in
set_option maxRecDepth 100000 in
theorem simulate_outside.calls (a0 : Int) (a1 : Int) (a2 : Int) (r : Bool) (w : World) (h : simulate_outside.f a0 a1 a2 = some r) :
    Calls Try.prog 52 #[.int .i64 a0, .int .i64 a1, .int .i64 a2] w fun e w' => e = .returned (.bool r) ∧ Drawn0 w w' := by
  have H : (if a0 < a1 then (some true) else (some (decide (a0 > a2)))) = some r := h
  clear h
  by_cases c4 : a0 < a1
  · rw [if_pos c4] at H
    have c4b0 : decide (a0 < a1) = true := decide_eq_true c4
    clear c4
    obtain rfl := Option.some.inj H
    go_enter Try.func52, Try.ntmps52
    go_wp2
    go_ret
    exact ⟨by first | rfl | (simp; done) | (simp [*]; done), by repeat (first | exact Drawn0.refl _ | apply Drawn0.step)⟩
  · rw [if_neg c4] at H
    have c4b0 : decide (a0 < a1) = false := decide_eq_false c4
    clear c4
    obtain rfl := Option.some.inj H
    go_enter Try.func52, Try.ntmps52
    go_wp2
    go_ret
    exact ⟨by first | rfl | (simp; done) | (simp [*]; done), by repeat (first | exact Drawn0.refl _ | apply Drawn0.step)⟩
end Go.Proofs.Ytdadnapfecmmdaa.P
