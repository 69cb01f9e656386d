/- Own texts of a proof about layer 55's simulate (merged): Sc. -/
import Derived.Test.YtdadnapfecmmdaaYm10
import Derived.Test.YtdadnapfecmmdaaYm13
import Derived.Test.YtdadnapfecmmdaaYm2
import Derived.Test.YtdadnapfecmmdaaYm20
import Derived.Test.YtdadnapfecmmdaaYm9
import Derived.Deep.DeepMust
namespace Go.Proofs.Ytdadnapfecmmdaa.P
set_option linter.unusedVariables false
set_option linter.unusedSimpArgs false
open Go.RowKit Go.Proofs.YtdadnapfecmmdaaW.PrintWords Go.Proofs.YtdadnapfecmmdaaW.PrintLast Go.Proofs.YtdadnapfecmmdaaW.PrintMore
open Go.Proofs.Ytdadnapfecmmdaa.Hm
abbrev sv14 (s : Sp) (A12 : Option Addr) (c12 : Nat) (A13 : Option Addr) (c13 : Nat) : Array Value := #[.int .i64 s.tr, .int .i64 s.id, .int .i64 s.par, .int .i64 s.rev, .int .i64 s.clk, .int .i64 s.kind, .string s.svc, .string s.ver, .string s.op, .int .i64 s.st, .int .i64 s.en, .bool s.err, .slice A12 0 c12, .slice A13 0 c13]
theorem cmpattr_nil (A : Option Addr) (c : Nat) (B : Option Addr) (d : Nat) (v : Value) (w : World) : Calls Try.prog 131 #[.slice A 0 c, .slice B 0 d, v] w fun e w' => e = .returned (.int .i64 0) ∧ Below w.heap.size w w' := by
  go_enter Try.func131, Try.ntmps131
  go_wp2_with fail
  go_loopg [7, 8, 9, 10, 13] 0 (fun gg s7 s8 s9 s10 s13 wr => s13 = .int .i64 0 ∧ Aside0 (Below w.heap.size w wr))
  case atStart => exact ⟨rfl, ⟨Below.refl _ _⟩⟩
  case round =>
  obtain ⟨rfl, HB⟩ := hrel
  go_wp2
  go_ret
  exact ⟨rfl, HB.out⟩
theorem cmplinks_nil (A : Option Addr) (c : Nat) (B : Option Addr) (d : Nat) (v : Value) (w : World) : Calls Try.prog 119 #[.slice A 0 c, .slice B 0 d, v] w fun e w' => e = .returned (.int .i64 0) ∧ Below w.heap.size w w' := by
  go_enter Try.func119, Try.ntmps119
  go_wp2_with fail
  go_loopg [7, 8, 9, 10, 13] 0 (fun gg s7 s8 s9 s10 s13 wr => s13 = .int .i64 0 ∧ Aside0 (Below w.heap.size w wr))
  case atStart => exact ⟨rfl, ⟨Below.refl _ _⟩⟩
  case round =>
  obtain ⟨rfl, HB⟩ := hrel
  go_wp2
  go_ret
  exact ⟨rfl, HB.out⟩
theorem cmpattrs_nil (A : Option Addr) (c : Nat) (B : Option Addr) (d : Nat) (w : World) : Calls Try.prog 118 #[.slice A 0 c, .slice B 0 d] w fun e w' => e = .returned (.int .i64 0) ∧ Below w.heap.size w w' := by
  go_enter Try.func118, Try.ntmps118
  go_wp2_with fail
  refine (cmpattr_nil _ _ _ _ _ _).mono ?_
  rintro e w1 ⟨rfl, hb⟩
  go_wp2_with fail
  go_ret
  exact ⟨rfl, hb⟩
theorem cs_eq (a : ByteArray) (w : World) : Calls Try.prog 103 #[.string a, .string a] w fun e w' => e = .returned (.int .i64 0) ∧ Below w.heap.size w w' := by
  refine (cmp_Compare_string.calls a a 0 w ?_).mono ?_
  · have hb : ∀ l, Op.bytesLess l l = false := by
      intro l
      induction l with
      | nil => rfl
      | cons x r ih => simp [Op.bytesLess, ih]
    unfold cmp_Compare_string.f cmpStr
    rw [hb, if_neg (by decide), if_pos rfl]
  · rintro e w' ⟨rfl, hb⟩
    first | exact ⟨rfl, hb⟩ | (obtain ⟨nd, rfl⟩ := hb; exact ⟨rfl, pw_below_drewN (Below.refl _ _) nd⟩)
theorem ci_eq0 (a : Int) : cmp_Compare_int.f a a = some 0 := by
  unfold cmp_Compare_int.f cmp_isNaN_int.f
  simp
theorem ci_eq (a : Int) (w : World) : Calls Try.prog 64 #[.int .i64 a, .int .i64 a] w fun e w' => e = .returned (.int .i64 0) ∧ Below w.heap.size w w' := by
  refine (cmp_Compare_int.calls a a 0 w (ci_eq0 a)).mono ?_
  rintro e w' ⟨rfl, hb⟩
  first | exact ⟨rfl, hb⟩ | (obtain ⟨nd, rfl⟩ := hb; exact ⟨rfl, pw_below_drewN (Below.refl _ _) nd⟩)
theorem number_ex (b : Bool) : ∃ n, ∀ w, Calls Try.prog 117 #[.bool b] w fun e w' => e = .returned (.int .i64 n) ∧ Below w.heap.size w w' := by
  obtain ⟨n, hn⟩ : ∃ n, span_number.f b = some n := by cases b <;> exact ⟨_, rfl⟩
  refine ⟨n, fun w => (span_number.calls b n w hn).mono ?_⟩
  rintro e w' ⟨rfl, hb⟩
  first | exact ⟨rfl, hb⟩ | (obtain ⟨nd, rfl⟩ := hb; exact ⟨rfl, pw_below_drewN (Below.refl _ _) nd⟩)
theorem six_C {W : World} {g : Nat} {t : TypeId} {a0 a1 a2 a3 a4 a5 : Int} (h : W.heap[g]? = some (.cells #[.int .i64 a0, .int .i64 a1, .int .i64 a2, .int .i64 a3, .int .i64 a4, .int .i64 a5] t (0, 0))) : Kd.C (Kd.int .i64) W (some ⟨g, 0, none⟩) 6 [a0, a1, a2, a3, a4, a5] := by
  refine ⟨rfl, by decide, fun _ => ⟨⟨g, 0, none⟩, rfl, fun j y hy => ⟨[.int .i64 y], rfl, rfl, fun i u hu => ?_⟩⟩⟩
  have hi : i = 0 := by
    have := (List.getElem?_eq_some_iff.mp hu).1
    simpa using this
  subst hi
  have hc := blk_cell h j
  match j with
  | 0 | 1 | 2 | 3 | 4 | 5 =>
    simp at hy hu
    subst hy hu
    exact hc.trans rfl
  | j + 6 => simp at hy
theorem compare_six (a0 a1 a2 a3 a4 a5 : Int) : slices_Compare_int_int.f 20 [a0, a1, a2, a3, a4, a5] [a0, a1, a2, a3, a4, a5] = some 0 := by
  unfold slices_Compare_int_int.f
  simp [slices_Compare_int_int.l0, ci_eq0, wrap64]
theorem six_calls (A B : Option Addr) (a0 a1 a2 a3 a4 a5 : Int) (W : World) (hA : Kd.C (Kd.int .i64) W A 6 [a0, a1, a2, a3, a4, a5]) (hB : Kd.C (Kd.int .i64) W B 6 [a0, a1, a2, a3, a4, a5]) :
    Calls Try.prog 116 #[.slice A 6 6, .slice B 6 6] W fun e w' => e = .returned (.int .i64 0) ∧ Below W.heap.size W w' := by
  refine (slices_Compare_int_int.calls 20 A 6 [a0, a1, a2, a3, a4, a5] B 6 [a0, a1, a2, a3, a4, a5] 0 W hA (Nat.le_refl _) hB (Nat.le_refl _) (compare_six _ _ _ _ _ _)).mono ?_
  rintro e w' ⟨rfl, nd, rfl⟩
  exact ⟨rfl, pw_below_drewN (Below.refl _ _) nd⟩
theorem or_nine (A : Option Addr) (c : Nat) (W : World) (hl : 9 ≤ c) (hc : Kd.C (Kd.int .i64) W A 9 [0, 0, 0, 0, 0, 0, 0, 0, 0]) : Calls Try.prog 63 #[.slice A 9 c] W fun e w' => e = .returned (.int .i64 0) ∧ Below W.heap.size W w' := by
  refine (cmp_Or_int.calls 20 A c [0, 0, 0, 0, 0, 0, 0, 0, 0] 0 W hc hl (by kernel_rfl)).mono ?_
  rintro e w' ⟨rfl, hb⟩
  first | exact ⟨rfl, hb⟩ | (obtain ⟨nd, rfl⟩ := hb; exact ⟨rfl, pw_below_drewN (Below.refl _ _) nd⟩)
def scT.T3 : Bool × List (List Nat × List Nat) := (true, [([], []), ([], []), ([0, 1], [0, 1]), ([], []), ([3], [3]), ([], []), ([5], [5]), ([4, 6, 2], [4, 6]), ([], []), ([8], [8]), ([], []), ([10], [10]), ([9, 11, 7], [9, 11]), ([], []), ([13], [13]), ([], []), ([15], [15]), ([14, 16, 12], [14, 16]), ([], []), ([18], [18]), ([], []), ([20], [20]), ([19, 21, 17], [19, 21]), ([], []), ([23], [23]), ([], []), ([25], [25]), ([24, 26, 22], [24, 26]), ([], []), ([28], [28]), ([29, 27], [29]), ([], []), ([31], [31]), ([32, 30], [32]), ([30, 33], [30, 33]), ([], []), ([35], [35]), ([], []), ([37], [37]), ([36, 38, 33], [36, 38]), ([], []), ([40], [40]), ([], []), ([42], [42]), ([41, 43, 39], [41, 43]), ([2, 7, 12, 17, 22, 27, 34, 39, 44], [2, 7, 12, 17, 22, 27, 34, 39, 44]), ([45, 44], [45]), ([46, 46, 0, 1, 2, 3, 4, 5, 6, 7, 8, 9, 10, 11, 12, 13, 14, 15, 16, 17, 18, 19, 20, 21, 22, 23, 24, 25, 26, 27, 28, 29, 30, 31, 32, 33, 34, 35, 36, 37, 38, 39, 40, 41, 42, 43, 44, 45, 46], [46])])
def scT.B3 : List Nat := [0, 0, 3, 0, 8, 0, 32, 127, 0, 256, 0, 1024, 4095, 0, 8192, 0, 32768, 131071, 0, 262144, 0, 1048576, 4194303, 0, 8388608, 0, 33554432, 134217727, 0, 268435456, 1073741823, 0, 2147483648, 8589934591, 17179869183, 0, 34359738368, 0, 137438953472, 532575944703, 0, 1099511627776, 0, 4398046511104, 17575006175231, 35184372088831, 70368744177663, 140737488355327]
theorem scT.tab3 : rtab .any (opsOf Try.f88 3) = scT.T3 := by kernel_rfl
theorem scT.bits3 : waitsOk scT.T3.2 scT.B3 = true := by kernel_rfl
set_option maxHeartbeats 8000000 in
set_option maxRecDepth 100000 in
theorem cmpspan_eq (s : Sp) (A12 : Option Addr) (c12 : Nat) (A13 : Option Addr) (c13 : Nat) (B12 : Option Addr) (d12 : Nat) (B13 : Option Addr) (d13 : Nat) (w : World) : Calls Try.prog 88 #[.agg (sv14 s A12 c12 A13 c13), .agg (sv14 s B12 d12 B13 d13)] w fun e w' => e = .returned (.int .i64 0) ∧ Below w.heap.size w w' := by
  obtain ⟨n, hN⟩ := number_ex s.err
  have HN := Aside0.mk hN
  clear hN
  go_enter Try.func88, Try.ntmps88
  go_upto_region 3 with fail
  obtain ⟨W0, HW0⟩ : ∃ W0, W0 = (((w.alloc (.cells (sv14 s A12 c12 A13 c13) 56)).alloc (.cells (sv14 s B12 d12 B13 d13) 56)).alloc (.cells #[.int .i64 s.tr, .int .i64 s.id, .int .i64 s.rev, .int .i64 s.par, .int .i64 s.clk, .int .i64 s.kind] 183)).alloc (.cells #[.int .i64 s.tr, .int .i64 s.id, .int .i64 s.rev, .int .i64 s.par, .int .i64 s.clk, .int .i64 s.kind] 183) := ⟨_, rfl⟩
  have hb0 : Below w.heap.size w W0 := by
    rw [HW0]
    repeat (first | exact Below.refl _ _ | apply below_alloc)
  have ha : W0.heap[w.heap.size]? = some (.cells (sv14 s A12 c12 A13 c13) 56 (0, 0)) := by
    rw [HW0]
    exact blk_alloc (blk_alloc (blk_alloc (blk_new w _) _) _) _
  have hbb : W0.heap[w.heap.size + 1]? = some (.cells (sv14 s B12 d12 B13 d13) 56 (0, 0)) := by
    rw [HW0]
    refine blk_alloc (blk_alloc ?_ _) _
    simpa using blk_new (w.alloc (.cells (sv14 s A12 c12 A13 c13) 56)) (.cells (sv14 s B12 d12 B13 d13) 56)
  have hxx : W0.heap[w.heap.size + 1 + 1]? = some (.cells #[.int .i64 s.tr, .int .i64 s.id, .int .i64 s.rev, .int .i64 s.par, .int .i64 s.clk, .int .i64 s.kind] 183 (0, 0)) := by
    rw [HW0]
    refine blk_alloc ?_ _
    simpa using blk_new ((w.alloc (.cells (sv14 s A12 c12 A13 c13) 56)).alloc (.cells (sv14 s B12 d12 B13 d13) 56)) (.cells #[.int .i64 s.tr, .int .i64 s.id, .int .i64 s.rev, .int .i64 s.par, .int .i64 s.clk, .int .i64 s.kind] 183)
  have hyy : W0.heap[w.heap.size + 1 + 1 + 1]? = some (.cells #[.int .i64 s.tr, .int .i64 s.id, .int .i64 s.rev, .int .i64 s.par, .int .i64 s.clk, .int .i64 s.kind] 183 (0, 0)) := by
    rw [HW0]
    simpa using blk_new (((w.alloc (.cells (sv14 s A12 c12 A13 c13) 56)).alloc (.cells (sv14 s B12 d12 B13 d13) 56)).alloc (.cells #[.int .i64 s.tr, .int .i64 s.id, .int .i64 s.rev, .int .i64 s.par, .int .i64 s.clk, .int .i64 s.kind] 183)) (.cells #[.int .i64 s.tr, .int .i64 s.id, .int .i64 s.rev, .int .i64 s.par, .int .i64 s.clk, .int .i64 s.kind] 183)
  rw [← HW0]
  clear HW0
  have HB0 := Aside0.mk hb0
  have HC := Aside0.mk (fun W (hb : Below W0.heap.size W0 W) => six_calls _ _ s.tr s.id s.rev s.par s.clk s.kind W (Kd.C_below (six_C hxx) hb) (Kd.C_below (six_C hyy) hb))
  have x6 : W0.cell? ⟨w.heap.size, 6, none⟩ = some (.string s.svc) := (blk_cell ha 6).trans rfl
  have x7 : W0.cell? ⟨w.heap.size, 7, none⟩ = some (.string s.ver) := (blk_cell ha 7).trans rfl
  have x8 : W0.cell? ⟨w.heap.size, 8, none⟩ = some (.string s.op) := (blk_cell ha 8).trans rfl
  have x9 : W0.cell? ⟨w.heap.size, 9, none⟩ = some (.int .i64 s.st) := (blk_cell ha 9).trans rfl
  have x10 : W0.cell? ⟨w.heap.size, 10, none⟩ = some (.int .i64 s.en) := (blk_cell ha 10).trans rfl
  have x11 : W0.cell? ⟨w.heap.size, 11, none⟩ = some (.bool s.err) := (blk_cell ha 11).trans rfl
  have x12 : W0.cell? ⟨w.heap.size, 12, none⟩ = some (.slice A12 0 c12) := (blk_cell ha 12).trans rfl
  have x13 : W0.cell? ⟨w.heap.size, 13, none⟩ = some (.slice A13 0 c13) := (blk_cell ha 13).trans rfl
  have y6 : W0.cell? ⟨w.heap.size + 1, 6, none⟩ = some (.string s.svc) := (blk_cell hbb 6).trans rfl
  have y7 : W0.cell? ⟨w.heap.size + 1, 7, none⟩ = some (.string s.ver) := (blk_cell hbb 7).trans rfl
  have y8 : W0.cell? ⟨w.heap.size + 1, 8, none⟩ = some (.string s.op) := (blk_cell hbb 8).trans rfl
  have y9 : W0.cell? ⟨w.heap.size + 1, 9, none⟩ = some (.int .i64 s.st) := (blk_cell hbb 9).trans rfl
  have y10 : W0.cell? ⟨w.heap.size + 1, 10, none⟩ = some (.int .i64 s.en) := (blk_cell hbb 10).trans rfl
  have y11 : W0.cell? ⟨w.heap.size + 1, 11, none⟩ = some (.bool s.err) := (blk_cell hbb 11).trans rfl
  have y12 : W0.cell? ⟨w.heap.size + 1, 12, none⟩ = some (.slice B12 0 d12) := (blk_cell hbb 12).trans rfl
  have y13 : W0.cell? ⟨w.heap.size + 1, 13, none⟩ = some (.slice B13 0 d13) := (blk_cell hbb 13).trans rfl
  clear ha hbb hxx hyy hb0
  refine start_ (n := 48) (S := fun w' => Below W0.heap.size W0 w') (ds := []) #[false, false, false, false, false, false, false, false, false, false, false, false, false, false, false, false, false, false, false, false, false, false, false, false, false, false, false, false, false, false, false, false, false, false, false, false, false, false, false, false, false, false, false, false, false, false, false, false] (by kernel_rfl) rfl rfl (Below.refl _ _).drew (fun hHeld => ?_)
  refine with_tabW scT.tab3 scT.bits3 (fun HT_ HW_ => ?_)
  generalize W0.drew = wd at hHeld ⊢
  refine pu_ 0 (some 33) (bq 48 1) HT_ rfl rfl ?_
  refine pu_ 1 (some 34) (bq 48 3) HT_ rfl rfl ?_
  refine pu_ 3 (some 36) (bq 48 11) HT_ rfl rfl ?_
  refine tk_ 4 (some 37) (bq 48 27) HT_ HW_ rfl rfl hHeld ?_ (by intro w' hS; replace x6 := below_at hS x6; go_simp; with_reducible rfl)
  refine pu_ 5 (some 38) (bq 48 59) HT_ rfl rfl ?_
  refine tk_ 6 (some 39) (bq 48 123) HT_ HW_ rfl rfl hHeld ?_ (by intro w' hS; replace y6 := below_at hS y6; go_simp; with_reducible rfl)
  refine pu_ 8 (some 41) (bq 48 379) HT_ rfl rfl ?_
  refine tk_ 9 (some 42) (bq 48 891) HT_ HW_ rfl rfl hHeld ?_ (by intro w' hS; replace x7 := below_at hS x7; go_simp; with_reducible rfl)
  refine pu_ 10 (some 43) (bq 48 1915) HT_ rfl rfl ?_
  refine tk_ 11 (some 44) (bq 48 3963) HT_ HW_ rfl rfl hHeld ?_ (by intro w' hS; replace y7 := below_at hS y7; go_simp; with_reducible rfl)
  refine pu_ 13 (some 46) (bq 48 12155) HT_ rfl rfl ?_
  refine tk_ 14 (some 47) (bq 48 28539) HT_ HW_ rfl rfl hHeld ?_ (by intro w' hS; replace x8 := below_at hS x8; go_simp; with_reducible rfl)
  refine pu_ 15 (some 48) (bq 48 61307) HT_ rfl rfl ?_
  refine tk_ 16 (some 49) (bq 48 126843) HT_ HW_ rfl rfl hHeld ?_ (by intro w' hS; replace y8 := below_at hS y8; go_simp; with_reducible rfl)
  refine pu_ 18 (some 51) (bq 48 388987) HT_ rfl rfl ?_
  refine tk_ 19 (some 52) (bq 48 913275) HT_ HW_ rfl rfl hHeld ?_ (by intro w' hS; replace x9 := below_at hS x9; go_simp; with_reducible rfl)
  refine pu_ 20 (some 53) (bq 48 1961851) HT_ rfl rfl ?_
  refine tk_ 21 (some 54) (bq 48 4059003) HT_ HW_ rfl rfl hHeld ?_ (by intro w' hS; replace y9 := below_at hS y9; go_simp; with_reducible rfl)
  refine pu_ 23 (some 56) (bq 48 12447611) HT_ rfl rfl ?_
  refine tk_ 24 (some 57) (bq 48 29224827) HT_ HW_ rfl rfl hHeld ?_ (by intro w' hS; replace x10 := below_at hS x10; go_simp; with_reducible rfl)
  refine pu_ 25 (some 58) (bq 48 62779259) HT_ rfl rfl ?_
  refine tk_ 26 (some 59) (bq 48 129888123) HT_ HW_ rfl rfl hHeld ?_ (by intro w' hS; replace y10 := below_at hS y10; go_simp; with_reducible rfl)
  refine pu_ 28 (some 61) (bq 48 398323579) HT_ rfl rfl ?_
  refine tk_ 29 (some 62) (bq 48 935194491) HT_ HW_ rfl rfl hHeld ?_ (by intro w' hS; replace x11 := below_at hS x11; go_simp; with_reducible rfl)
  refine pu_ 31 (some 64) (bq 48 3082678139) HT_ rfl rfl ?_
  refine tk_ 32 (some 65) (bq 48 7377645435) HT_ HW_ rfl rfl hHeld ?_ (by intro w' hS; replace y11 := below_at hS y11; go_simp; with_reducible rfl)
  refine pu_ 35 (some 68) (bq 48 41737383803) HT_ rfl rfl ?_
  refine tk_ 36 (some 69) (bq 48 110456860539) HT_ HW_ rfl rfl hHeld ?_ (by intro w' hS; replace x12 := below_at hS x12; go_simp; with_reducible rfl)
  refine pu_ 37 (some 70) (bq 48 247895814011) HT_ rfl rfl ?_
  refine tk_ 38 (some 71) (bq 48 522773720955) HT_ HW_ rfl rfl hHeld ?_ (by intro w' hS; replace y12 := below_at hS y12; go_simp; with_reducible rfl)
  refine pu_ 40 (some 73) (bq 48 1622285348731) HT_ rfl rfl ?_
  refine tk_ 41 (some 74) (bq 48 3821308604283) HT_ HW_ rfl rfl hHeld ?_ (by intro w' hS; replace x13 := below_at hS x13; go_simp; with_reducible rfl)
  refine pu_ 42 (some 75) (bq 48 8219355115387) HT_ rfl rfl ?_
  refine tk_ 43 (some 76) (bq 48 17015448137595) HT_ HW_ rfl rfl hHeld ?_ (by intro w' hS; replace y13 := below_at hS y13; go_simp; with_reducible rfl)
  refine one_ (i := 2) (N := some 35) #[true, true, true, true, true, true, true, false, true, true, true, true, false, true, true, true, true, false, true, true, true, true, false, true, true, true, true, false, true, true, false, true, true, false, false, true, true, true, true, false, true, true, true, true, false, false, false, false] rfl rfl (one_of HT_.out (by kernel_rfl)) (by decide) (fun K hK => ?_)
  refine goes_ Try.func116 (by kernel_rfl) rfl #[.slice (some ⟨w.heap.size + 1 + 1, 0, none⟩) 6 6, .slice (some ⟨w.heap.size + 1 + 1 + 1, 0, none⟩) 6 6] (by rfl) rfl rfl (by (try simp only [List.map_toArray, List.map_cons, List.map_nil]); first | done | rfl) ?_
  with_reducible refine (HC.out _ hHeld).mono ?_
  rintro e w2 ⟨rfl, hb⟩
  refine ⟨_, rfl, ?_⟩
  replace hHeld := below_step hHeld hb
  clear hb
  refine hK.out _ _ hHeld (fun hHeld => ?_)
  clear hK K
  refine norm_ (a' := ?_) ?_ ?_
  rotate_left
  · show Act.put _ (some 35) _ = _
    simp only [Act.put, List.setIfInBounds_toArray, List.set_cons_zero, List.set_cons_succ, i64_w, i32_w]
    rfl
  refine one_ (i := 7) (N := some 40) #[true, true, true, true, true, true, true, true, true, true, true, true, false, true, true, true, true, false, true, true, true, true, false, true, true, true, true, false, true, true, false, true, true, false, false, true, true, true, true, false, true, true, true, true, false, false, false, false] rfl rfl (one_of HT_.out (by kernel_rfl)) (by decide) (fun K hK => ?_)
  refine goes_ Try.func103 (by kernel_rfl) rfl #[.string s.svc, .string s.svc] (by rfl) rfl rfl (by (try simp only [List.map_toArray, List.map_cons, List.map_nil]); first | done | rfl) ?_
  with_reducible refine (cs_eq s.svc _).mono ?_
  rintro e w7 ⟨rfl, hb⟩
  refine ⟨_, rfl, ?_⟩
  replace hHeld := below_step hHeld hb
  clear hb
  refine hK.out _ _ hHeld (fun hHeld => ?_)
  clear hK K
  refine norm_ (a' := ?_) ?_ ?_
  rotate_left
  · show Act.put _ (some 40) _ = _
    simp only [Act.put, List.setIfInBounds_toArray, List.set_cons_zero, List.set_cons_succ, i64_w, i32_w]
    rfl
  refine one_ (i := 12) (N := some 45) #[true, true, true, true, true, true, true, true, true, true, true, true, true, true, true, true, true, false, true, true, true, true, false, true, true, true, true, false, true, true, false, true, true, false, false, true, true, true, true, false, true, true, true, true, false, false, false, false] rfl rfl (one_of HT_.out (by kernel_rfl)) (by decide) (fun K hK => ?_)
  refine goes_ Try.func103 (by kernel_rfl) rfl #[.string s.ver, .string s.ver] (by rfl) rfl rfl (by (try simp only [List.map_toArray, List.map_cons, List.map_nil]); first | done | rfl) ?_
  with_reducible refine (cs_eq s.ver _).mono ?_
  rintro e w12 ⟨rfl, hb⟩
  refine ⟨_, rfl, ?_⟩
  replace hHeld := below_step hHeld hb
  clear hb
  refine hK.out _ _ hHeld (fun hHeld => ?_)
  clear hK K
  refine norm_ (a' := ?_) ?_ ?_
  rotate_left
  · show Act.put _ (some 45) _ = _
    simp only [Act.put, List.setIfInBounds_toArray, List.set_cons_zero, List.set_cons_succ, i64_w, i32_w]
    rfl
  refine one_ (i := 17) (N := some 50) #[true, true, true, true, true, true, true, true, true, true, true, true, true, true, true, true, true, true, true, true, true, true, false, true, true, true, true, false, true, true, false, true, true, false, false, true, true, true, true, false, true, true, true, true, false, false, false, false] rfl rfl (one_of HT_.out (by kernel_rfl)) (by decide) (fun K hK => ?_)
  refine goes_ Try.func103 (by kernel_rfl) rfl #[.string s.op, .string s.op] (by rfl) rfl rfl (by (try simp only [List.map_toArray, List.map_cons, List.map_nil]); first | done | rfl) ?_
  with_reducible refine (cs_eq s.op _).mono ?_
  rintro e w17 ⟨rfl, hb⟩
  refine ⟨_, rfl, ?_⟩
  replace hHeld := below_step hHeld hb
  clear hb
  refine hK.out _ _ hHeld (fun hHeld => ?_)
  clear hK K
  refine norm_ (a' := ?_) ?_ ?_
  rotate_left
  · show Act.put _ (some 50) _ = _
    simp only [Act.put, List.setIfInBounds_toArray, List.set_cons_zero, List.set_cons_succ, i64_w, i32_w]
    rfl
  refine one_ (i := 22) (N := some 55) #[true, true, true, true, true, true, true, true, true, true, true, true, true, true, true, true, true, true, true, true, true, true, true, true, true, true, true, false, true, true, false, true, true, false, false, true, true, true, true, false, true, true, true, true, false, false, false, false] rfl rfl (one_of HT_.out (by kernel_rfl)) (by decide) (fun K hK => ?_)
  refine goes_ Try.func64 (by kernel_rfl) rfl #[.int .i64 s.st, .int .i64 s.st] (by rfl) rfl rfl (by (try simp only [List.map_toArray, List.map_cons, List.map_nil]); first | done | rfl) ?_
  with_reducible refine (ci_eq s.st _).mono ?_
  rintro e w22 ⟨rfl, hb⟩
  refine ⟨_, rfl, ?_⟩
  replace hHeld := below_step hHeld hb
  clear hb
  refine hK.out _ _ hHeld (fun hHeld => ?_)
  clear hK K
  refine norm_ (a' := ?_) ?_ ?_
  rotate_left
  · show Act.put _ (some 55) _ = _
    simp only [Act.put, List.setIfInBounds_toArray, List.set_cons_zero, List.set_cons_succ, i64_w, i32_w]
    rfl
  refine one_ (i := 27) (N := some 60) #[true, true, true, true, true, true, true, true, true, true, true, true, true, true, true, true, true, true, true, true, true, true, true, true, true, true, true, true, true, true, false, true, true, false, false, true, true, true, true, false, true, true, true, true, false, false, false, false] rfl rfl (one_of HT_.out (by kernel_rfl)) (by decide) (fun K hK => ?_)
  refine goes_ Try.func64 (by kernel_rfl) rfl #[.int .i64 s.en, .int .i64 s.en] (by rfl) rfl rfl (by (try simp only [List.map_toArray, List.map_cons, List.map_nil]); first | done | rfl) ?_
  with_reducible refine (ci_eq s.en _).mono ?_
  rintro e w27 ⟨rfl, hb⟩
  refine ⟨_, rfl, ?_⟩
  replace hHeld := below_step hHeld hb
  clear hb
  refine hK.out _ _ hHeld (fun hHeld => ?_)
  clear hK K
  refine norm_ (a' := ?_) ?_ ?_
  rotate_left
  · show Act.put _ (some 60) _ = _
    simp only [Act.put, List.setIfInBounds_toArray, List.set_cons_zero, List.set_cons_succ, i64_w, i32_w]
    rfl
  refine one_ (i := 30) (N := some 63) #[true, true, true, true, true, true, true, true, true, true, true, true, true, true, true, true, true, true, true, true, true, true, true, true, true, true, true, true, true, true, true, true, true, false, false, true, true, true, true, false, true, true, true, true, false, false, false, false] rfl rfl (one_of HT_.out (by kernel_rfl)) (by decide) (fun K hK => ?_)
  refine goes_ Try.func117 (by kernel_rfl) rfl #[.bool s.err] (by rfl) rfl rfl (by (try simp only [List.map_toArray, List.map_cons, List.map_nil]); first | done | rfl) ?_
  with_reducible refine (HN.out _).mono ?_
  rintro e w30 ⟨rfl, hb⟩
  refine ⟨_, rfl, ?_⟩
  replace hHeld := below_step hHeld hb
  clear hb
  refine hK.out _ _ hHeld (fun hHeld => ?_)
  clear hK K
  refine norm_ (a' := ?_) ?_ ?_
  rotate_left
  · show Act.put _ (some 63) _ = _
    simp only [Act.put, List.setIfInBounds_toArray, List.set_cons_zero, List.set_cons_succ, i64_w, i32_w]
    rfl
  refine one_ (i := 33) (N := some 66) #[true, true, true, true, true, true, true, true, true, true, true, true, true, true, true, true, true, true, true, true, true, true, true, true, true, true, true, true, true, true, true, true, true, true, false, true, true, true, true, false, true, true, true, true, false, false, false, false] rfl rfl (one_of HT_.out (by kernel_rfl)) (by decide) (fun K hK => ?_)
  refine goes_ Try.func117 (by kernel_rfl) rfl #[.bool s.err] (by rfl) rfl rfl (by (try simp only [List.map_toArray, List.map_cons, List.map_nil]); first | done | rfl) ?_
  with_reducible refine (HN.out _).mono ?_
  rintro e w33 ⟨rfl, hb⟩
  refine ⟨_, rfl, ?_⟩
  replace hHeld := below_step hHeld hb
  clear hb
  refine hK.out _ _ hHeld (fun hHeld => ?_)
  clear hK K
  refine norm_ (a' := ?_) ?_ ?_
  rotate_left
  · show Act.put _ (some 66) _ = _
    simp only [Act.put, List.setIfInBounds_toArray, List.set_cons_zero, List.set_cons_succ, i64_w, i32_w]
    rfl
  refine pu_ 34 (some 67) (bq 48 17042430230527) HT_ rfl rfl ?_ (hy := by intro w'; go_simp; rw [show IntKind.i64.wrap 0 = 0 from rfl])
  refine one_ (i := 39) (N := some 72) #[true, true, true, true, true, true, true, true, true, true, true, true, true, true, true, true, true, true, true, true, true, true, true, true, true, true, true, true, true, true, true, true, true, true, true, true, true, true, true, true, true, true, true, true, false, false, false, false] rfl rfl (one_of HT_.out (by kernel_rfl)) (by decide) (fun K hK => ?_)
  refine goes_ Try.func118 (by kernel_rfl) rfl #[.slice A12 0 c12, .slice B12 0 d12] (by rfl) rfl rfl (by (try simp only [List.map_toArray, List.map_cons, List.map_nil]); first | done | rfl) ?_
  with_reducible refine (cmpattrs_nil _ _ _ _ _).mono ?_
  rintro e w39 ⟨rfl, hb⟩
  refine ⟨_, rfl, ?_⟩
  replace hHeld := below_step hHeld hb
  clear hb
  refine hK.out _ _ hHeld (fun hHeld => ?_)
  clear hK K
  refine norm_ (a' := ?_) ?_ ?_
  rotate_left
  · show Act.put _ (some 72) _ = _
    simp only [Act.put, List.setIfInBounds_toArray, List.set_cons_zero, List.set_cons_succ, i64_w, i32_w]
    rfl
  refine one_ (i := 44) (N := some 77) #[true, true, true, true, true, true, true, true, true, true, true, true, true, true, true, true, true, true, true, true, true, true, true, true, true, true, true, true, true, true, true, true, true, true, true, true, true, true, true, true, true, true, true, true, true, false, false, false] rfl rfl (one_of HT_.out (by kernel_rfl)) (by decide) (fun K hK => ?_)
  refine goes_ Try.func119 (by kernel_rfl) rfl #[.slice A13 0 c13, .slice B13 0 d13, .func (.func 120) #[] #[]] (by rfl) rfl rfl (by (try simp only [List.map_toArray, List.map_cons, List.map_nil]); first | done | rfl) ?_
  with_reducible refine (cmplinks_nil _ _ _ _ _ _).mono ?_
  rintro e w44 ⟨rfl, hb⟩
  refine ⟨_, rfl, ?_⟩
  replace hHeld := below_step hHeld hb
  clear hb
  refine hK.out _ _ hHeld (fun hHeld => ?_)
  clear hK K
  refine norm_ (a' := ?_) ?_ ?_
  rotate_left
  · show Act.put _ (some 77) _ = _
    simp only [Act.put, List.setIfInBounds_toArray, List.set_cons_zero, List.set_cons_succ, i64_w, i32_w]
    rfl
  refine one_ (i := 45) (N := some 78) #[true, true, true, true, true, true, true, true, true, true, true, true, true, true, true, true, true, true, true, true, true, true, true, true, true, true, true, true, true, true, true, true, true, true, true, true, true, true, true, true, true, true, true, true, true, true, false, false] rfl rfl (one_of HT_.out (by kernel_rfl)) (by decide) (fun K hK => ?_)
  refine Kd.R_lit_step (Kd.int .i64) (w0 := W0) W0.heap.size 3 (by rfl) (N := 78) rfl (xs := [0, 0, 0, 0, 0, 0, 0, 0, 0]) (inner := [.int .i64 0, .int .i64 0, .int .i64 0, .int .i64 0, .int .i64 0, .int .i64 0, .int .i64 0, .int .i64 0, .int .i64 0]) (ok := fun _ => True) (okp := fun _ => False) (by go_simp) (Reps.one (show Kd.M (Kd.int .i64) _ _ _ 0 [.int .i64 0] from rfl) (Reps.one (show Kd.M (Kd.int .i64) _ _ _ 0 [.int .i64 0] from rfl) (Reps.one (show Kd.M (Kd.int .i64) _ _ _ 0 [.int .i64 0] from rfl) (Reps.one (show Kd.M (Kd.int .i64) _ _ _ 0 [.int .i64 0] from rfl) (Reps.one (show Kd.M (Kd.int .i64) _ _ _ 0 [.int .i64 0] from rfl) (Reps.one (show Kd.M (Kd.int .i64) _ _ _ 0 [.int .i64 0] from rfl) (Reps.one (show Kd.M (Kd.int .i64) _ _ _ 0 [.int .i64 0] from rfl) (Reps.one (show Kd.M (Kd.int .i64) _ _ _ 0 [.int .i64 0] from rfl) (Reps.one (show Kd.M (Kd.int .i64) _ _ _ 0 [.int .i64 0] from rfl) (Reps.none _ _)))))))))) (fun _ h => h.elim) trivial hHeld hHeld.size (by simp) ?_
  intro v54 W54 hr54 hb54 hg54 ho54
  obtain ⟨A5, c5, e5, hl5, hc5⟩ := Kd.R_reads hr54
  subst e5
  refine hK.out _ _ hb54 (fun hHeld => ?_)
  clear hK K
  refine norm_ (a' := ?_) ?_ ?_
  rotate_left
  · show Act.put _ (some 78) _ = _
    simp only [Act.put, List.setIfInBounds_toArray, List.set_cons_zero, List.set_cons_succ, i64_w, i32_w]
    rfl
  have HOR := Aside0.mk (or_nine A5 c5 _ hl5 hc5)
  clear hr54 hg54 ho54 hb54
  refine one_ (i := 46) (N := some 79) #[true, true, true, true, true, true, true, true, true, true, true, true, true, true, true, true, true, true, true, true, true, true, true, true, true, true, true, true, true, true, true, true, true, true, true, true, true, true, true, true, true, true, true, true, true, true, true, false] rfl rfl (one_of HT_.out (by kernel_rfl)) (by decide) (fun K hK => ?_)
  refine goes_ Try.func63 (by kernel_rfl) rfl #[.slice A5 9 c5] (by rfl) rfl rfl (by (try simp only [List.map_toArray, List.map_cons, List.map_nil]); first | done | rfl) ?_
  with_reducible refine (HOR.out).mono ?_
  rintro e w46 ⟨rfl, hb⟩
  refine ⟨_, rfl, ?_⟩
  replace hHeld := below_step hHeld hb
  clear hb
  refine hK.out _ _ hHeld (fun hHeld => ?_)
  clear hK K
  refine norm_ (a' := ?_) ?_ ?_
  rotate_left
  · show Act.put _ (some 79) _ = _
    simp only [Act.put, List.setIfInBounds_toArray, List.set_cons_zero, List.set_cons_succ, i64_w, i32_w]
    rfl
  refine pu_ 47 (some 4) (bq 48 281474976710655) HT_ rfl rfl ?_
  refine done_ (done_of HT_.out (by kernel_rfl)) ?_
  clear x6 y6 x7 y7 x8 y8 x9 y9 x10 y10 x11 y11 x12 y12 x13 y13 HC HN HOR
  go_wp2
  go_ret
  exact ⟨rfl, below_step HB0.out hHeld⟩
theorem equal_eq (s : Sp) (A12 : Option Addr) (c12 : Nat) (A13 : Option Addr) (c13 : Nat) (B12 : Option Addr) (d12 : Nat) (B13 : Option Addr) (d13 : Nat) (w : World) : Calls Try.prog 73 #[.agg (sv14 s A12 c12 A13 c13), .agg (sv14 s B12 d12 B13 d13)] w fun e w' => e = .returned (.bool true) ∧ Below w.heap.size w w' := by
  go_enter Try.func73, Try.ntmps73
  have hb0 : Below w.heap.size w ((w.alloc (.cells (sv14 s A12 c12 A13 c13) 56)).alloc (.cells (sv14 s B12 d12 B13 d13) 56)) := below_alloc (below_alloc (Below.refl _ _) _) _
  go_wp2_with fail
  refine (cmpspan_eq s A12 c12 A13 c13 B12 d12 B13 d13 _).mono ?_
  rintro e w1 ⟨rfl, hb⟩
  have HB := Aside0.mk (below_step hb0 hb)
  clear hb hb0
  go_wp2
  go_ret
  exact ⟨rfl, HB.out⟩
def ssT.T6 : Bool × List (List Nat × List Nat) := (true, [([], []), ([], []), ([0, 1], [0, 1]), ([2], [2]), ([], []), ([], []), ([4, 5], [4, 5]), ([6], [6]), ([3, 7], [3, 7]), ([8], [8])])
def ssT.B6 : List Nat := [0, 0, 3, 7, 0, 0, 48, 112, 255, 511]
theorem ssT.tab6 : rtab .any (opsOf Try.f42 6) = ssT.T6 := by kernel_rfl
theorem ssT.bits6 : waitsOk ssT.T6.2 ssT.B6 = true := by kernel_rfl
theorem rdS_at (l : List Sp) (i : Nat) (h : i < l.length) : rd_T56 (l.map toS) (i : Int) = toS l[i] := by
  unfold rd_T56
  simp [List.getD_eq_getElem?_getD, h]
theorem rdT_at (l : List Tr) (i : Nat) (h : i < l.length) : rd_T51 (l.map toT) (i : Int) = toT l[i] := by
  unfold rd_T51
  simp [List.getD_eq_getElem?_getD, h]
set_option maxHeartbeats 8000000 in
set_option maxRecDepth 100000 in
theorem sameSpans_eq (A : Option Addr) (c : Nat) (B : Option Addr) (d : Nat) (l : List Sp) (w : World) (hA : Kd.C k56 w A l.length (l.map toS)) (hB : Kd.C k56 w B l.length (l.map toS)) :
    Calls Try.prog 42 #[.slice A l.length c, .slice B l.length d] w fun e w' => e = .returned (.bool true) ∧ Below w.heap.size w w' := by
  have HA := Aside0.mk hA
  have HB := Aside0.mk hB
  have hn : l.length ≤ 9223372036854775807 := hA.2.1
  clear hA hB
  go_enter Try.func42, Try.ntmps42
  go_wp2_with fail
  go_loopg [5] l.length (fun gg s5 wr => ∃ i : Nat, i ≤ l.length ∧ l.length - i ≤ gg ∧ s5 = .int .i64 (i : Int) ∧ Aside0 (Below w.heap.size w wr))
  case atStart => exact ⟨0, Nat.zero_le _, by omega, rfl, ⟨Below.refl _ _⟩⟩
  case round =>
  obtain ⟨i, hi, hgi, rfl, HW⟩ := hrel
  by_cases hlt : i < l.length
  · obtain ⟨ad, A12, c12, A13, c13, e, a0, a1, a2, a3, a4, a5, a6, a7, a8, a9, a10, a11, a12, a13, -⟩ := at_T56 HA.out (i : Int) (by omega) (by omega)
    obtain ⟨ae, B12, d12, B13, d13, e2, b0, b1, b2, b3, b4, b5, b6, b7, b8, b9, b10, b11, b12, b13, -⟩ := at_T56 HB.out (i : Int) (by omega) (by omega)
    subst e e2
    rw [rdS_at l i hlt] at a0 a1 a2 a3 a4 a5 a6 a7 a8 a9 a10 a11 a12 a13 b0 b1 b2 b3 b4 b5 b6 b7 b8 b9 b10 b11 b12 b13
    generalize l[i] = s at a0 a1 a2 a3 a4 a5 a6 a7 a8 a9 a10 a11 a12 a13 b0 b1 b2 b3 b4 b5 b6 b7 b8 b9 b10 b11 b12 b13
    simp only [Int.toNat_natCast, toS, List.length_nil] at a0 a1 a2 a3 a4 a5 a6 a7 a8 a9 a10 a11 a12 a13 b0 b1 b2 b3 b4 b5 b6 b7 b8 b9 b10 b11 b12 b13
    replace a0 := (HW.out.cell (World.block_lt_of_cell? _ _ a0)).trans a0
    replace a1 := (HW.out.cell (World.block_lt_of_cell? _ _ a1)).trans a1
    replace a2 := (HW.out.cell (World.block_lt_of_cell? _ _ a2)).trans a2
    replace a3 := (HW.out.cell (World.block_lt_of_cell? _ _ a3)).trans a3
    replace a4 := (HW.out.cell (World.block_lt_of_cell? _ _ a4)).trans a4
    replace a5 := (HW.out.cell (World.block_lt_of_cell? _ _ a5)).trans a5
    replace a6 := (HW.out.cell (World.block_lt_of_cell? _ _ a6)).trans a6
    replace a7 := (HW.out.cell (World.block_lt_of_cell? _ _ a7)).trans a7
    replace a8 := (HW.out.cell (World.block_lt_of_cell? _ _ a8)).trans a8
    replace a9 := (HW.out.cell (World.block_lt_of_cell? _ _ a9)).trans a9
    replace a10 := (HW.out.cell (World.block_lt_of_cell? _ _ a10)).trans a10
    replace a11 := (HW.out.cell (World.block_lt_of_cell? _ _ a11)).trans a11
    replace a12 := (HW.out.cell (World.block_lt_of_cell? _ _ a12)).trans a12
    replace a13 := (HW.out.cell (World.block_lt_of_cell? _ _ a13)).trans a13
    replace b0 := (HW.out.cell (World.block_lt_of_cell? _ _ b0)).trans b0
    replace b1 := (HW.out.cell (World.block_lt_of_cell? _ _ b1)).trans b1
    replace b2 := (HW.out.cell (World.block_lt_of_cell? _ _ b2)).trans b2
    replace b3 := (HW.out.cell (World.block_lt_of_cell? _ _ b3)).trans b3
    replace b4 := (HW.out.cell (World.block_lt_of_cell? _ _ b4)).trans b4
    replace b5 := (HW.out.cell (World.block_lt_of_cell? _ _ b5)).trans b5
    replace b6 := (HW.out.cell (World.block_lt_of_cell? _ _ b6)).trans b6
    replace b7 := (HW.out.cell (World.block_lt_of_cell? _ _ b7)).trans b7
    replace b8 := (HW.out.cell (World.block_lt_of_cell? _ _ b8)).trans b8
    replace b9 := (HW.out.cell (World.block_lt_of_cell? _ _ b9)).trans b9
    replace b10 := (HW.out.cell (World.block_lt_of_cell? _ _ b10)).trans b10
    replace b11 := (HW.out.cell (World.block_lt_of_cell? _ _ b11)).trans b11
    replace b12 := (HW.out.cell (World.block_lt_of_cell? _ _ b12)).trans b12
    replace b13 := (HW.out.cell (World.block_lt_of_cell? _ _ b13)).trans b13
    have hz1 : (i : Int) < (l.length : Int) := by omega
    go_upto_region 6 with fail
    refine start_ (n := 10) (S := fun w' => Below wr.heap.size wr w') (ds := []) #[false, false, false, false, false, false, false, false, false, false] (by kernel_rfl) rfl rfl (Below.refl _ _).drew (fun hHeld => ?_)
    refine with_tabW ssT.tab6 ssT.bits6 (fun HT_ HW_ => ?_)
    generalize wr.drew = wd at hHeld ⊢
    refine pu_ 0 (some 17) (bq 10 1) HT_ rfl rfl ?_
    refine pu_ 1 (some 18) (bq 10 3) HT_ rfl rfl ?_
    refine pu_ 2 (some 19) (bq 10 7) HT_ rfl rfl ?_
    refine tk_ 3 (some 20) (bq 10 15) HT_ HW_ rfl rfl hHeld ?_ (by intro w' hS; replace a0 := below_at hS a0; replace a1 := below_at hS a1; replace a2 := below_at hS a2; replace a3 := below_at hS a3; replace a4 := below_at hS a4; replace a5 := below_at hS a5; replace a6 := below_at hS a6; replace a7 := below_at hS a7; replace a8 := below_at hS a8; replace a9 := below_at hS a9; replace a10 := below_at hS a10; replace a11 := below_at hS a11; replace a12 := below_at hS a12; replace a13 := below_at hS a13; go_simp; with_reducible rfl)
    refine pu_ 4 (some 21) (bq 10 31) HT_ rfl rfl ?_
    refine pu_ 5 (some 22) (bq 10 63) HT_ rfl rfl ?_
    refine pu_ 6 (some 23) (bq 10 127) HT_ rfl rfl ?_
    refine tk_ 7 (some 24) (bq 10 255) HT_ HW_ rfl rfl hHeld ?_ (by intro w' hS; replace b0 := below_at hS b0; replace b1 := below_at hS b1; replace b2 := below_at hS b2; replace b3 := below_at hS b3; replace b4 := below_at hS b4; replace b5 := below_at hS b5; replace b6 := below_at hS b6; replace b7 := below_at hS b7; replace b8 := below_at hS b8; replace b9 := below_at hS b9; replace b10 := below_at hS b10; replace b11 := below_at hS b11; replace b12 := below_at hS b12; replace b13 := below_at hS b13; go_simp; with_reducible rfl)
    refine one_ (i := 8) (N := some 25) #[true, true, true, true, true, true, true, true, true, false] rfl rfl (one_of HT_.out (by kernel_rfl)) (by decide) (fun K hK => ?_)
    refine goes_ Try.func73 (by kernel_rfl) rfl #[.agg (sv14 s A12 c12 A13 c13), .agg (sv14 s B12 d12 B13 d13)] (by rfl) rfl rfl (by (try simp only [List.map_toArray, List.map_cons, List.map_nil]); first | done | rfl) ?_
    with_reducible refine (equal_eq s A12 c12 A13 c13 B12 d12 B13 d13 _).mono ?_
    rintro e w8 ⟨rfl, hb⟩
    refine ⟨_, rfl, ?_⟩
    replace hHeld := below_step hHeld hb
    clear hb
    refine hK.out _ _ hHeld (fun hHeld => ?_)
    clear hK K
    refine norm_ (a' := ?_) ?_ ?_
    rotate_left
    · show Act.put _ (some 25) _ = _
      simp only [Act.put, List.setIfInBounds_toArray, List.set_cons_zero, List.set_cons_succ, i64_w, i32_w]
      rfl
    refine pu_ 9 (some 26) (bq 10 1023) HT_ rfl rfl ?_
    refine done_ (done_of HT_.out (by kernel_rfl)) ?_
    have HW2 := Aside0.mk (below_step HW.out hHeld)
    clear hHeld HW a0 a1 a2 a3 a4 a5 a6 a7 a8 a9 a10 a11 a12 a13 b0 b1 b2 b3 b4 b5 b6 b7 b8 b9 b10 b11 b12 b13
    go_wp2
    go_roundg (l.length - (i + 1))
    case measure => omega
    case rel => exact ⟨i + 1, by omega, by omega, by first | rfl | go_num, HW2⟩
  · have hz1 : decide (i < l.length) = false := by simp; omega
    have hz2 : decide ((i : Int) < (l.length : Int)) = false := by simp; omega
    clear hlt
    go_wp2
    go_ret
    exact ⟨rfl, HW.out⟩
def stT.T6 : Bool × List (List Nat × List Nat) := (true, [([], []), ([], []), ([0, 1], [0, 1]), ([2], [2]), ([3], [3]), ([], []), ([], []), ([5, 6], [5, 6]), ([7], [7]), ([8], [8]), ([4, 9], [4, 9]), ([10], [10]), ([11], [11]), ([11], [11]), ([12, 13, 11], [11, 12, 13]), ([14, 11], [11, 14]), ([15, 11], [11, 15]), ([11], [11]), ([11], [11]), ([17, 18, 11], [11, 17, 18]), ([19, 11], [11, 19]), ([20, 11], [11, 20]), ([16, 21, 11], [11, 16, 21]), ([11, 22], [11, 22]), ([23, 11], [23]), ([24], [24]), ([24], [24]), ([25, 26, 24], [24, 25, 26]), ([27, 24], [24, 27]), ([28, 24], [24, 28]), ([24], [24]), ([24], [24]), ([30, 31, 24], [24, 30, 31]), ([32, 24], [24, 32]), ([33, 24], [24, 33]), ([29, 34, 24, 24], [24, 29, 34]), ([35, 24], [24, 35]), ([24, 36], [24, 36])])
def stT.B6 : List Nat := [0, 0, 3, 7, 15, 0, 0, 96, 224, 480, 1023, 2047, 4095, 4095, 16383, 32767, 65535, 4095, 4095, 397311, 921599, 1970175, 4194303, 8388607, 16777215, 33554431, 33554431, 134217727, 268435455, 536870911, 33554431, 33554431, 3254779903, 7549747199, 16139681791, 34359738367, 68719476735, 137438953471]
theorem stT.tab6 : rtab .any (opsOf Try.f20 6) = stT.T6 := by kernel_rfl
theorem stT.bits6 : waitsOk stT.T6.2 stT.B6 = true := by kernel_rfl
set_option maxHeartbeats 8000000 in
set_option maxRecDepth 100000 in
theorem sameTraces_eq (A : Option Addr) (c : Nat) (B : Option Addr) (d : Nat) (l : List Tr) (w : World) (hA : Kd.C k51 w A l.length (l.map toT)) (hB : Kd.C k51 w B l.length (l.map toT)) :
    Calls Try.prog 20 #[.slice A l.length c, .slice B l.length d] w fun e w' => e = .returned (.bool true) ∧ Below w.heap.size w w' := by
  have HA := Aside0.mk hA
  have HB := Aside0.mk hB
  have hn : l.length ≤ 9223372036854775807 := hA.2.1
  clear hA hB
  go_enter Try.func20, Try.ntmps20
  go_wp2_with fail
  go_loopg [5] l.length (fun gg s5 wr => ∃ i : Nat, i ≤ l.length ∧ l.length - i ≤ gg ∧ s5 = .int .i64 (i : Int) ∧ Aside0 (Below w.heap.size w wr))
  case atStart => exact ⟨0, Nat.zero_le _, by omega, rfl, ⟨Below.refl _ _⟩⟩
  case round =>
  obtain ⟨i, hi, hgi, rfl, HW⟩ := hrel
  by_cases hlt : i < l.length
  · obtain ⟨ad, A2, k2, e, t0, t1, t2, hk2, hC2⟩ := at_T51 HA.out (i : Int) (by omega) (by omega)
    obtain ⟨ae, B2, d2, e2, u0, u1, u2, hd2, hD2⟩ := at_T51 HB.out (i : Int) (by omega) (by omega)
    subst e e2
    rw [rdT_at l i hlt] at t0 t1 t2 u0 u1 u2 hC2 hD2
    generalize l[i] = x at t0 t1 t2 u0 u1 u2 hC2 hD2
    simp only [Int.toNat_natCast, toT, List.length_map] at t0 t1 t2 u0 u1 u2 hC2 hD2
    replace t0 := (HW.out.cell (World.block_lt_of_cell? _ _ t0)).trans t0
    replace t1 := (HW.out.cell (World.block_lt_of_cell? _ _ t1)).trans t1
    replace t2 := (HW.out.cell (World.block_lt_of_cell? _ _ t2)).trans t2
    replace u0 := (HW.out.cell (World.block_lt_of_cell? _ _ u0)).trans u0
    replace u1 := (HW.out.cell (World.block_lt_of_cell? _ _ u1)).trans u1
    replace u2 := (HW.out.cell (World.block_lt_of_cell? _ _ u2)).trans u2
    have HS := Aside0.mk (fun W (hb : Below wr.heap.size wr W) => sameSpans_eq A2 k2 B2 d2 x.l W (Kd.C_below hC2 (below_step HW.out hb)) (Kd.C_below hD2 (below_step HW.out hb)))
    generalize x.l.length = m at t2 u2 HS
    have hz1 : (i : Int) < (l.length : Int) := by omega
    clear hC2 hD2 hk2 hd2
    go_upto_region 6 with fail
    refine start_ (n := 38) (S := fun w' => Below wr.heap.size wr w') (ds := []) #[false, false, false, false, false, false, false, false, false, false, false, false, false, false, false, false, false, false, false, false, false, false, false, false, false, false, false, false, false, false, false, false, false, false, false, false, false, false] (by kernel_rfl) rfl rfl (Below.refl _ _).drew (fun hHeld => ?_)
    refine with_tabW stT.tab6 stT.bits6 (fun HT_ HW_ => ?_)
    generalize wr.drew = wd at hHeld ⊢
    refine pu_ 0 (some 17) (bq 38 1) HT_ rfl rfl ?_
    refine pu_ 1 (some 18) (bq 38 3) HT_ rfl rfl ?_
    refine pu_ 2 (some 19) (bq 38 7) HT_ rfl rfl ?_
    refine pu_ 3 (some 20) (bq 38 15) HT_ rfl rfl ?_
    refine tk_ 4 (some 21) (bq 38 31) HT_ HW_ rfl rfl hHeld ?_ (by intro w' hS; replace t0 := below_at hS t0; go_simp; with_reducible rfl)
    refine pu_ 5 (some 22) (bq 38 63) HT_ rfl rfl ?_
    refine pu_ 6 (some 23) (bq 38 127) HT_ rfl rfl ?_
    refine pu_ 7 (some 24) (bq 38 255) HT_ rfl rfl ?_
    refine pu_ 8 (some 25) (bq 38 511) HT_ rfl rfl ?_
    refine tk_ 9 (some 26) (bq 38 1023) HT_ HW_ rfl rfl hHeld ?_ (by intro w' hS; replace u0 := below_at hS u0; go_simp; with_reducible rfl)
    refine pu_ 10 (some 27) (bq 38 2047) HT_ rfl rfl ?_
    refine pu_ 11 (some 28) (bq 38 4095) HT_ rfl rfl ?_
    refine pu_ 12 (some 29) (bq 38 8191) HT_ rfl rfl ?_
    refine pu_ 13 (some 30) (bq 38 16383) HT_ rfl rfl ?_
    refine pu_ 14 (some 31) (bq 38 32767) HT_ rfl rfl ?_
    refine pu_ 15 (some 32) (bq 38 65535) HT_ rfl rfl ?_
    refine tk_ 16 (some 33) (bq 38 131071) HT_ HW_ rfl rfl hHeld ?_ (by intro w' hS; replace t1 := below_at hS t1; go_simp; with_reducible rfl)
    refine pu_ 17 (some 34) (bq 38 262143) HT_ rfl rfl ?_
    refine pu_ 18 (some 35) (bq 38 524287) HT_ rfl rfl ?_
    refine pu_ 19 (some 36) (bq 38 1048575) HT_ rfl rfl ?_
    refine pu_ 20 (some 37) (bq 38 2097151) HT_ rfl rfl ?_
    refine tk_ 21 (some 38) (bq 38 4194303) HT_ HW_ rfl rfl hHeld ?_ (by intro w' hS; replace u1 := below_at hS u1; go_simp; with_reducible rfl)
    refine pu_ 22 (some 39) (bq 38 8388607) HT_ rfl rfl ?_
    refine pu_ 23 (some 40) (bq 38 16777215) HT_ rfl rfl ?_
    refine pu_ 24 (some 41) (bq 38 33554431) HT_ rfl rfl ?_
    refine pu_ 25 (some 42) (bq 38 67108863) HT_ rfl rfl ?_
    refine pu_ 26 (some 43) (bq 38 134217727) HT_ rfl rfl ?_
    refine pu_ 27 (some 44) (bq 38 268435455) HT_ rfl rfl ?_
    refine pu_ 28 (some 45) (bq 38 536870911) HT_ rfl rfl ?_
    refine tk_ 29 (some 46) (bq 38 1073741823) HT_ HW_ rfl rfl hHeld ?_ (by intro w' hS; replace t2 := below_at hS t2; go_simp; with_reducible rfl)
    refine pu_ 30 (some 47) (bq 38 2147483647) HT_ rfl rfl ?_
    refine pu_ 31 (some 48) (bq 38 4294967295) HT_ rfl rfl ?_
    refine pu_ 32 (some 49) (bq 38 8589934591) HT_ rfl rfl ?_
    refine pu_ 33 (some 50) (bq 38 17179869183) HT_ rfl rfl ?_
    refine tk_ 34 (some 51) (bq 38 34359738367) HT_ HW_ rfl rfl hHeld ?_ (by intro w' hS; replace u2 := below_at hS u2; go_simp; with_reducible rfl)
    refine one_ (i := 35) (N := some 52) #[true, true, true, true, true, true, true, true, true, true, true, true, true, true, true, true, true, true, true, true, true, true, true, true, true, true, true, true, true, true, true, true, true, true, true, true, false, false] rfl rfl (one_of HT_.out (by kernel_rfl)) (by decide) (fun K hK => ?_)
    refine goes_ Try.func42 (by kernel_rfl) rfl #[.slice A2 m k2, .slice B2 m d2] (by rfl) rfl rfl (by (try simp only [List.map_toArray, List.map_cons, List.map_nil]); first | done | rfl) ?_
    with_reducible refine (HS.out _ hHeld).mono ?_
    rintro e w8 ⟨rfl, hb⟩
    refine ⟨_, rfl, ?_⟩
    replace hHeld := below_step hHeld hb
    clear hb
    refine hK.out _ _ hHeld (fun hHeld => ?_)
    clear hK K
    refine norm_ (a' := ?_) ?_ ?_
    rotate_left
    · show Act.put _ (some 52) _ = _
      simp only [Act.put, List.setIfInBounds_toArray, List.set_cons_zero, List.set_cons_succ, i64_w, i32_w]
      rfl
    refine pu_ 36 (some 53) (bq 38 137438953471) HT_ rfl rfl ?_
    refine pu_ 37 (some 54) (bq 38 274877906943) HT_ rfl rfl ?_
    refine done_ (done_of HT_.out (by kernel_rfl)) ?_
    have HW2 := Aside0.mk (below_step HW.out hHeld)
    clear hHeld HW t0 t1 t2 u0 u1 u2 HS
    go_wp2
    go_roundg (l.length - (i + 1))
    case measure => omega
    case rel => exact ⟨i + 1, by omega, by omega, by first | rfl | go_num, HW2⟩
  · have hz1 : decide (i < l.length) = false := by simp; omega
    have hz2 : decide ((i : Int) < (l.length : Int)) = false := by simp; omega
    clear hlt
    go_wp2
    go_ret
    exact ⟨rfl, HW.out⟩
end Go.Proofs.Ytdadnapfecmmdaa.P
