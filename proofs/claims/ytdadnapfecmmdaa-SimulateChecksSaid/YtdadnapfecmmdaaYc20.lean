/- Own texts of a proof about layer 55's simulate (merged): Ke, Hy, PF32, Hz. -/
import Derived.Test.YtdadnapfecmmdaaYc18
import Derived.Test.YtdadnapfecmmdaaYc2
import Derived.Test.YtdadnapfecmmdaaYc8
namespace Go.Proofs.Ytdadnapfecmmdaa.P
set_option linter.unusedVariables false
set_option linter.unusedSimpArgs false
open Go.RowKit Go.Proofs.YtdadnapfecmmdaaW.PrintWords Go.Proofs.YtdadnapfecmmdaaW.PrintLast Go.Proofs.YtdadnapfecmmdaaW.PrintMore
open Go.Proofs.Ytdadnapfecmmdaa.Hm
set_option maxHeartbeats 4000000 in
set_option maxRecDepth 100000 in
theorem Traces_terr (c : Cfg) (p : CfgAt) (w : World) (hR : CfgR w p c) (hr : ckT c ≠ 0) :
    Calls Try.prog 13 #[c.val p] w fun e w' => e = .returned (.tuple #[.slice none 0 0, .int .i64 (ckT c)]) ∧ Below w.heap.size w w' := by
  have HR := Aside0.mk hR
  obtain ⟨A1, c1, A2, c2, A3, c3, A4, c4⟩ := p
  have HC := Aside0.mk (fun W fv (h : CfgR W ⟨A1, c1, A2, c2, A3, c3, A4, c4⟩ c) => terr36 c ⟨A1, c1, A2, c2, A3, c3, A4, c4⟩ W fv h hr)
  clear hR
  have HRB : Aside0 ((ckT c != 0) = true) := ⟨by simpa using hr⟩
  clear hr
  generalize ckT c = r at HRB HC ⊢
  have hrb := HRB.out
  go_enter Try.func13, Try.ntmps13
  go_wp2_with fail
  refine (HC.out _ _ (HR.out.below (below_alloc (Below.refl _ _) _))).mono ?_
  rintro e w1 ⟨rfl, hb1⟩
  have HB := Aside0.mk (below_step (below_alloc (Below.refl w.heap.size w) _) hb1)
  clear hb1
  go_wp2_with fail
  first | go_returns | refine bodyPost_ret (results_tmp2 rfl _ _ _) rfl ?_
  exact ⟨by rfl, HB.out⟩
set_option maxHeartbeats 4000000 in
set_option maxRecDepth 100000 in
theorem Truth_terr (c : Cfg) (p : CfgAt) (w : World) (hR : CfgR w p c) (hr : ckT c ≠ 0) :
    Calls Try.prog 16 #[c.val p] w fun e w' => e = .returned (.tuple #[.slice none 0 0, .int .i64 (ckT c)]) ∧ Below w.heap.size w w' := by
  have HR := Aside0.mk hR
  obtain ⟨A1, c1, A2, c2, A3, c3, A4, c4⟩ := p
  have HC := Aside0.mk (fun W fv (h : CfgR W ⟨A1, c1, A2, c2, A3, c3, A4, c4⟩ c) => terr36 c ⟨A1, c1, A2, c2, A3, c3, A4, c4⟩ W fv h hr)
  clear hR
  have HRB : Aside0 ((ckT c != 0) = true) := ⟨by simpa using hr⟩
  clear hr
  generalize ckT c = r at HRB HC ⊢
  have hrb := HRB.out
  go_enter Try.func16, Try.ntmps16
  go_wp2_with fail
  refine (HC.out _ _ (HR.out.below (below_alloc (Below.refl _ _) _))).mono ?_
  rintro e w1 ⟨rfl, hb1⟩
  have HB := Aside0.mk (below_step (below_alloc (Below.refl w.heap.size w) _) hb1)
  clear hb1
  go_wp2_with fail
  first | go_returns | refine bodyPost_ret (results_tmp2 rfl _ _ _) rfl ?_
  exact ⟨by rfl, HB.out⟩
set_option maxHeartbeats 4000000 in
set_option maxRecDepth 100000 in
theorem Sent_terr (c : Cfg) (p : CfgAt) (w : World) (hR : CfgR w p c) (hr : ckT c ≠ 0) :
    Calls Try.prog 28 #[c.val p] w fun e w' => e = .returned (.tuple #[.slice none 0 0, .int .i64 (ckT c)]) ∧ Below w.heap.size w w' := by
  have HR := Aside0.mk hR
  obtain ⟨A1, c1, A2, c2, A3, c3, A4, c4⟩ := p
  have HC := Aside0.mk (fun W (h : CfgR W ⟨A1, c1, A2, c2, A3, c3, A4, c4⟩ c) => Traces_terr c ⟨A1, c1, A2, c2, A3, c3, A4, c4⟩ W h hr)
  clear hR
  have HRB : Aside0 ((ckT c != 0) = true) := ⟨by simpa using hr⟩
  clear hr
  generalize ckT c = r at HRB HC ⊢
  have hrb := HRB.out
  go_enter Try.func28, Try.ntmps28
  go_wp2_with fail
  refine (HC.out _ (HR.out.below (below_alloc (Below.refl _ _) _))).mono ?_
  rintro e w1 ⟨rfl, hb1⟩
  have HB := Aside0.mk (below_step (below_alloc (Below.refl w.heap.size w) _) hb1)
  clear hb1
  go_wp2_with fail
  first | go_returns | refine bodyPost_ret (results_tmp2 rfl _ _ _) rfl ?_
  exact ⟨by rfl, HB.out⟩
set_option maxHeartbeats 4000000 in
set_option maxRecDepth 100000 in
theorem Arrivals_terr (c : Cfg) (p : CfgAt) (w : World) (hR : CfgR w p c) (hr : ckT c ≠ 0) :
    Calls Try.prog 29 #[c.val p] w fun e w' => e = .returned (.tuple #[.slice none 0 0, .int .i64 (ckT c)]) ∧ Below w.heap.size w w' := by
  have HR := Aside0.mk hR
  obtain ⟨A1, c1, A2, c2, A3, c3, A4, c4⟩ := p
  have HC := Aside0.mk (fun W (h : CfgR W ⟨A1, c1, A2, c2, A3, c3, A4, c4⟩ c) => Sent_terr c ⟨A1, c1, A2, c2, A3, c3, A4, c4⟩ W h hr)
  clear hR
  have HRB : Aside0 ((ckT c != 0) = true) := ⟨by simpa using hr⟩
  clear hr
  generalize ckT c = r at HRB HC ⊢
  have hrb := HRB.out
  go_enter Try.func29, Try.ntmps29
  go_wp2_with fail
  refine (HC.out _ (HR.out.below (below_alloc (Below.refl _ _) _))).mono ?_
  rintro e w1 ⟨rfl, hb1⟩
  have HB := Aside0.mk (below_step (below_alloc (Below.refl w.heap.size w) _) hb1)
  clear hb1
  go_wp2_with fail
  first | go_returns | refine bodyPost_ret (results_tmp2 rfl _ _ _) rfl ?_
  exact ⟨by rfl, HB.out⟩
theorem TsOut.base {b b' : Nat} {w' : World} {ts : List Tr} {v : Value} (h : TsOut b w' ts v) (hb : b' ≤ b) : TsOut b' w' ts v := by
  obtain ⟨xs, h1, h2, h3⟩ := h
  exact ⟨xs, h1, own_base h2 hb, fun x hx => own_base (h3 x hx) hb⟩
set_option maxHeartbeats 4000000 in
theorem Traces_ok (n k : Nat) (c : Cfg) (p : CfgAt) (w : World) (ts : List Tr) (hR : CfgR w p c) (hck : ckAll k c = some 0) (h : tracesV n c (shiftSp c.off) = some ts) :
    Calls Try.prog 13 #[c.val p] w fun e w' => ∃ v, e = .returned (.tuple #[v, .int .i64 0]) ∧ TsOut w.heap.size w' ts v ∧ Below w.heap.size w w' := by
  have HR := Aside0.mk hR
  have HCK := Aside0.mk hck
  have HA := Aside0.mk h
  clear hR hck h
  obtain ⟨A1, c1, A2, c2, A3, c3, A4, c4⟩ := p
  go_enter Try.func13, Try.ntmps13
  go_wp2_with fail
  have hb := below_alloc (Below.refl w.heap.size w) (.cells (c.cells ⟨A1, c1, A2, c2, A3, c3, A4, c4⟩) 31)
  have hr1 := HR.out.below hb
  have hn := blk_new w (.cells (c.cells ⟨A1, c1, A2, c2, A3, c3, A4, c4⟩) 31)
  have hsh := traces_shows (w.alloc (.cells (c.cells ⟨A1, c1, A2, c2, A3, c3, A4, c4⟩) 31)) c ⟨A1, c1, A2, c2, A3, c3, A4, c4⟩ w.heap.size hr1
  refine (traces_calls n k c ⟨A1, c1, A2, c2, A3, c3, A4, c4⟩ _ 37 #[pv w.heap.size] (shiftSp c.off) ts hr1 ⟨hsh.1, fun W r cp b j l hj hok hB hbb hbW ho => hsh.2 W r cp b j l hj (blk_below hn hok) hB hbb hbW ho⟩ HCK.out HA.out).mono ?_
  rintro e w1 ⟨v, rfl, ht, hb1⟩
  have HT := Aside0.mk (ht.base hb.size)
  have HB := Aside0.mk (below_step hb hb1)
  clear ht hb1 hsh hn hr1 hb
  go_wp2_with fail
  refine bodyPost_ret (results_tmp2 rfl _ _ _) rfl ?_
  exact ⟨v, by rfl, HT.out, HB.out⟩
end Go.Proofs.Ytdadnapfecmmdaa.P
namespace Go.Proofs.Ytdadnapfecmmdaa.P
open Go.RowKit Go.Proofs.YtdadnapfecmmdaaW.PrintWords Go.Proofs.YtdadnapfecmmdaaW.PrintLast Go.Proofs.YtdadnapfecmmdaaW.PrintMore
attribute [local go_sem] max2_int min2_int max_two min_two max_three min_three max_four min_four   -- for this text's walks alone
set_option linter.unusedVariables false
set_option linter.unusedSimpArgs false
def sleuthlaw55_example.f  : Option (Int × (List (S64)) × (List (S91)) × (List (S100)) × (List (S61)) × Int × Int × Int × Int × Int × Int × Int) := some (0, (([(⟨(⟨#[119, 101, 98]⟩ : ByteArray), 1, 10, 0, 0, (([(⟨#[100, 98]⟩ : ByteArray)] : List ByteArray))⟩ : S64), (⟨(⟨#[100, 98]⟩ : ByteArray), 2, 4, 0, 0, ([] : List ByteArray)⟩ : S64)] : List (S64))), (([(⟨1, 5⟩ : S91), (⟨2, 0⟩ : S91)] : List (S91))), ([] : List (S100)), ([] : List (S61)), 3, 4, 1, 0, 2, 0, 0)
set_option maxHeartbeats 8000000 in
set_option maxRecDepth 100000 in
theorem sleuthlaw55_example.calls  (r1 : Int) (r2 : List (S64)) (r3 : List (S91)) (r4 : List (S100)) (r5 : List (S61)) (r6 : Int) (r7 : Int) (r8 : Int) (r9 : Int) (r10 : Int) (r11 : Int) (r12 : Int) (w : World) (h : sleuthlaw55_example.f  = some (r1, r2, r3, r4, r5, r6, r7, r8, r9, r10, r11, r12)) :
    Calls Try.prog 32 #[] w fun e w' => ∃ v1_ v2_ v3_ v4_ : Value, e = .returned (.agg #[.int .i64 r1, v1_, v2_, v3_, v4_, .int .i64 r6, .int .i64 r7, .int .i64 r8, .int .i64 r9, .int .i64 r10, .int .i64 r11, .int .i64 r12]) ∧ Kd.N k64 64 w' w.heap.size (fun k_ => (w.heap.size ≤ k_) ∧ some k_ ≠ (v2_ : Value).ownBlock ∧ some k_ ≠ (v3_ : Value).ownBlock ∧ some k_ ≠ (v4_ : Value).ownBlock) v1_ r2 ∧ Kd.R k91 91 w' w.heap.size (fun k_ => (w.heap.size ≤ k_)) v2_ r3 ∧ Kd.R k100 100 w' w.heap.size (fun k_ => (w.heap.size ≤ k_)) v3_ r4 ∧ Kd.R k61 61 w' w.heap.size (fun k_ => (w.heap.size ≤ k_)) v4_ r5 ∧ Below w.heap.size w w' := by
  have hu31 := Try.underlying31
  have hu64 := Try.underlying64
  have hu91 := Try.underlying91
  have hu29 := Try.underlying29
  have HB := Aside0.mk (Below.refl w.heap.size w)
  have H : (some (0, (([(⟨(⟨#[119, 101, 98]⟩ : ByteArray), 1, 10, 0, 0, (([(⟨#[100, 98]⟩ : ByteArray)] : List ByteArray))⟩ : S64), (⟨(⟨#[100, 98]⟩ : ByteArray), 2, 4, 0, 0, ([] : List ByteArray)⟩ : S64)] : List (S64))), (([(⟨1, 5⟩ : S91), (⟨2, 0⟩ : S91)] : List (S91))), ([] : List (S100)), ([] : List (S61)), 3, 4, 1, 0, 2, 0, 0)) = some (r1, r2, r3, r4, r5, r6, r7, r8, r9, r10, r11, r12) := h
  clear h
  obtain ⟨y102, hy102⟩ : ∃ y_ : List ByteArray, y_ = (([(⟨#[100, 98]⟩ : ByteArray)] : List ByteArray)) := ⟨_, rfl⟩
  replace H : (some (0, (([(⟨(⟨#[119, 101, 98]⟩ : ByteArray), 1, 10, 0, 0, y102⟩ : S64), (⟨(⟨#[100, 98]⟩ : ByteArray), 2, 4, 0, 0, ([] : List ByteArray)⟩ : S64)] : List (S64))), (([(⟨1, 5⟩ : S91), (⟨2, 0⟩ : S91)] : List (S91))), ([] : List (S100)), ([] : List (S61)), 3, 4, 1, 0, 2, 0, 0)) = some (r1, r2, r3, r4, r5, r6, r7, r8, r9, r10, r11, r12) := by first | (rw [hy102]; with_reducible exact H) | (have H2_ := (Option.bind_some _ _).symm.trans H; rw [hy102]; with_reducible exact H2_) | (have H2_ := (Option.bind_some _ _).symm.trans H; with_reducible exact H2_) | with_reducible exact H | (rw [hy102]; exact H) | exact H
  have Ny102 := Aside0.mk hy102
  clear hy102
  obtain ⟨y105, hy105⟩ : ∃ y_ : List (S64), y_ = (([(⟨(⟨#[119, 101, 98]⟩ : ByteArray), 1, 10, 0, 0, y102⟩ : S64), (⟨(⟨#[100, 98]⟩ : ByteArray), 2, 4, 0, 0, ([] : List ByteArray)⟩ : S64)] : List (S64))) := ⟨_, rfl⟩
  replace H : (some (0, y105, (([(⟨1, 5⟩ : S91), (⟨2, 0⟩ : S91)] : List (S91))), ([] : List (S100)), ([] : List (S61)), 3, 4, 1, 0, 2, 0, 0)) = some (r1, r2, r3, r4, r5, r6, r7, r8, r9, r10, r11, r12) := by first | (rw [hy105]; with_reducible exact H) | (have H2_ := (Option.bind_some _ _).symm.trans H; rw [hy105]; with_reducible exact H2_) | (have H2_ := (Option.bind_some _ _).symm.trans H; with_reducible exact H2_) | with_reducible exact H | (rw [hy105]; exact H) | exact H
  have Ny105 := Aside0.mk hy105
  clear hy105
  obtain ⟨y108, hy108⟩ : ∃ y_ : List (S91), y_ = (([(⟨1, 5⟩ : S91), (⟨2, 0⟩ : S91)] : List (S91))) := ⟨_, rfl⟩
  replace H : (some (0, y105, y108, ([] : List (S100)), ([] : List (S61)), 3, 4, 1, 0, 2, 0, 0)) = some (r1, r2, r3, r4, r5, r6, r7, r8, r9, r10, r11, r12) := by first | (rw [hy108]; with_reducible exact H) | (have H2_ := (Option.bind_some _ _).symm.trans H; rw [hy108]; with_reducible exact H2_) | (have H2_ := (Option.bind_some _ _).symm.trans H; with_reducible exact H2_) | with_reducible exact H | (rw [hy108]; exact H) | exact H
  have Ny108 := Aside0.mk hy108
  clear hy108
  simp only [Option.some.injEq, Prod.mk.injEq] at H
  obtain ⟨rfl, rfl, rfl, rfl, rfl, rfl, rfl, rfl, rfl, rfl, rfl, rfl⟩ := H
  go_enter Try.func32, Try.ntmps32
  go_wp2_with (first | ((with_reducible refine gate_dst (N := 0) rfl ?_); refine box_event ?hg (N := 0) ?hd (cs := #[.int .i64 0, .slice none 0 0, .slice none 0 0, .slice none 0 0, .slice none 0 0, .int .i64 0, .int .i64 0, .int .i64 0, .int .i64 0, .int .i64 0, .int .i64 0, .int .i64 0]) (t := 31) ?hr ?_; (case hd => rfl); (case hg => rfl); (case hr => first | (go_simp; done) | (go_simp; rfl)); intro gb101 hg w1 hbox hb; have n0_ := Aside0.mk (below_step (by repeat (first | (with_reducible first | exact HB.out | apply below_alloc | apply pw_below_drewN | apply below_drew1) | exact HB.out)) hb); have n1_ := Aside0.mk (hbox); have n2_ := Aside0.mk ((by rw [hg]; exact (below_size (by repeat (first | (with_reducible first | exact HB.out | apply below_alloc | apply pw_below_drewN | apply below_drew1) | exact HB.out))) : w.heap.size ≤ gb101)); have n3_ := Aside0.mk ((by rw [hg]; exact (below_size (by repeat (first | (with_reducible first | exact HB.out | apply below_alloc | apply pw_below_drewN | apply below_drew1) | exact HB.out))) : w.heap.size ≤ gb101)); clear HB; have HB := n0_; have BK101 := n1_; have GW101 := n2_; have GE101 := n3_; clear n0_ n1_ n2_ n3_; clear hb hbox hg) | ((with_reducible refine gate_dst (N := 1) rfl ?_); refine Kd.R_lit Kd.string _ 9 ?hg (N := 1) ?hd (xs := ([(⟨#[100, 98]⟩ : ByteArray)] : List ByteArray)) (inner := [.string (⟨#[100, 98]⟩ : ByteArray)]) (ok := fun _ => True) (okp := fun _ => True) ?hr ?hp (fun _ hk => hk) trivial (Below.refl _ _) (Nat.le_refl _) (by simp) ?_; (case hd => rfl); (case hg => rfl); (case hr => first | (go_simp; done) | (go_simp; rfl)); (case hp => exact (Reps.one (show Kd.M Kd.string _ _ _ (⟨#[100, 98]⟩ : ByteArray) [.string (⟨#[100, 98]⟩ : ByteArray)] from rfl) (Reps.none _ _))); intro v103 w2 ho3 hb hg_ hnew_; clear hg_ hnew_; (first | rw [← Ny102.out] at ho3 | (simp only [Int.reduceToNat] at ho3; rw [← Ny102.out] at ho3)); have n0_ := Aside0.mk (Kd.R_lower (Kd.R_newM (M := fun k_ => (w.heap.size ≤ k_)) ho3 (below_size (by repeat (first | (with_reducible first | exact HB.out | apply below_alloc | apply pw_below_drewN | apply below_drew1 | refine below_set ?_ GE101.out) | exact HB.out))) (fun k_ h_ => h_)) (below_size (by repeat (first | (with_reducible first | exact HB.out | apply below_alloc | apply pw_below_drewN | apply below_drew1 | refine below_set ?_ GE101.out) | exact HB.out)))); have n1_ := Aside0.mk (blk_below (g := gb101) (o := .cells #[.int .i64 0, .slice none 0 0, .slice none 0 0, .slice none 0 0, .slice none 0 0, .int .i64 0, .int .i64 0, .int .i64 0, .int .i64 0, .int .i64 0, .int .i64 0, .int .i64 0] 31 (0, 0)) (by (with_reducible repeat (first | refine blk_drewN ?_ _ | refine blk_drew ?_ | refine blk_alloc ?_ _)); exact BK101.out) hb); have n2_ := Aside0.mk (below_step (by repeat (first | (with_reducible first | exact HB.out | apply below_alloc | apply pw_below_drewN | apply below_drew1 | refine below_set ?_ GE101.out) | exact HB.out)) hb); clear BK101; clear HB; have HO104 := n0_; have BK101 := n1_; have HB := n2_; clear n0_ n1_ n2_; clear hb ho3; obtain ⟨Ao4, co4, eo4⟩ := Kd.R_slice HO104.out; subst eo4) | ((with_reducible refine gate_dst (N := 4) rfl ?_); refine Kd.N_lit k64 _ 64 ?hg (N' := 4) ?hd (xs := ([(⟨(⟨#[119, 101, 98]⟩ : ByteArray), 1, 10, 0, 0, y102⟩ : S64), (⟨(⟨#[100, 98]⟩ : ByteArray), 2, 4, 0, 0, ([] : List ByteArray)⟩ : S64)] : List (S64))) (inner := [.string (⟨#[119, 101, 98]⟩ : ByteArray), .int .i64 1, .int .i64 10, .int .i64 0, .int .i64 0, .slice Ao4 y102.length co4, .string (⟨#[100, 98]⟩ : ByteArray), .int .i64 2, .int .i64 4, .int .i64 0, .int .i64 0, .slice none 0 0]) (ok := (fun k_ => (w.heap.size ≤ k_) ∧ k_ ≠ gb101)) (okp := (fun k_ => (w.heap.size ≤ k_) ∧ k_ ≠ gb101)) ?hr ?hp (fun _ hk => hk) ((show ∀ k_, w2.heap.size ≤ k_ → (fun k_ => (w.heap.size ≤ k_) ∧ k_ ≠ gb101) k_ from fun k_ hk => ⟨(Nat.le_trans (below_size (by repeat (first | (with_reducible first | exact HB.out | apply below_alloc | apply pw_below_drewN | apply below_drew1 | refine below_set ?_ GE101.out) | exact HB.out))) hk), Kd.freshB (g := gb101) (o := .cells #[.int .i64 0, .slice none 0 0, .slice none 0 0, .slice none 0 0, .slice none 0 0, .int .i64 0, .int .i64 0, .int .i64 0, .int .i64 0, .int .i64 0, .int .i64 0, .int .i64 0] 31 (0, 0)) (by (with_reducible repeat (first | refine blk_drewN ?_ _ | refine blk_drew ?_ | refine blk_alloc ?_ _)); exact BK101.out) k_ hk⟩) _ (Nat.le_refl _)) (Below.refl _ _) (Nat.le_refl _) (by simp) ?_; (case hd => rfl); (case hg => rfl); (case hr => first | (go_simp; done) | (go_simp; rfl)); (case hp => exact (Reps.c6 (show Kd.FK k64 _ _ (⟨(⟨#[119, 101, 98]⟩ : ByteArray), 1, 10, 0, 0, y102⟩ : S64) [.string (⟨#[119, 101, 98]⟩ : ByteArray), .int .i64 1, .int .i64 10, .int .i64 0, .int .i64 0, .slice Ao4 y102.length co4] from (k64_mkF _ _ (⟨(⟨#[119, 101, 98]⟩ : ByteArray), 1, 10, 0, 0, y102⟩ : S64) (Kd.R_reads' (Kd.R_mono (ok' := (fun k_ => (w.heap.size ≤ k_) ∧ k_ ≠ gb101)) (Kd.R_types (HO104.out) BK101.out (by decide)) (fun k_ hk => ⟨hk.1.1, hk.2⟩))).2.1 (Kd.R_F (Kd.R_mono (ok' := (fun k_ => (w.heap.size ≤ k_) ∧ k_ ≠ gb101)) (Kd.R_types (HO104.out) BK101.out (by decide)) (fun k_ hk => ⟨hk.1.1, hk.2⟩))))) (Reps.c6 (show Kd.FK k64 _ _ (⟨(⟨#[100, 98]⟩ : ByteArray), 2, 4, 0, 0, ([] : List ByteArray)⟩ : S64) [.string (⟨#[100, 98]⟩ : ByteArray), .int .i64 2, .int .i64 4, .int .i64 0, .int .i64 0, .slice none 0 0] from (k64_mkF _ _ (⟨(⟨#[100, 98]⟩ : ByteArray), 2, 4, 0, 0, ([] : List ByteArray)⟩ : S64) (Nat.le_refl _) (Kd.F_nil _ _ _))) (Reps.none _ _)))); intro v106 w5 ho6 hb hg_ hnew_; clear hg_ hnew_; (first | rw [← Ny105.out] at ho6 | (simp only [Int.reduceToNat] at ho6; rw [← Ny105.out] at ho6)); have n0_ := Aside0.mk (Kd.N_lower ho6 (below_size (by repeat (first | (with_reducible first | exact HB.out | apply below_alloc | apply pw_below_drewN | apply below_drew1 | refine below_set ?_ GE101.out) | exact HB.out)))); have n1_ := Aside0.mk (blk_below (g := gb101) (o := .cells #[.int .i64 0, .slice none 0 0, .slice none 0 0, .slice none 0 0, .slice none 0 0, .int .i64 0, .int .i64 0, .int .i64 0, .int .i64 0, .int .i64 0, .int .i64 0, .int .i64 0] 31 (0, 0)) (by (with_reducible repeat (first | refine blk_drewN ?_ _ | refine blk_drew ?_ | refine blk_alloc ?_ _)); exact BK101.out) hb); have n2_ := Aside0.mk (below_step (by repeat (first | (with_reducible first | exact HB.out | apply below_alloc | apply pw_below_drewN | apply below_drew1 | refine below_set ?_ GE101.out) | exact HB.out)) hb); clear BK101; clear HB; clear HO104; have HO107 := n0_; have BK101 := n1_; have HB := n2_; clear n0_ n1_ n2_; clear hb ho6) | ((with_reducible refine gate_dst (N := 7) rfl ?_); refine Kd.R_lit k91 _ 91 ?hg (N := 7) ?hd (xs := ([(⟨1, 5⟩ : S91), (⟨2, 0⟩ : S91)] : List (S91))) (inner := [.int .i64 1, .int .i64 5, .int .i64 2, .int .i64 0]) (ok := fun _ => True) (okp := fun _ => True) ?hr ?hp (fun _ hk => hk) trivial (Below.refl _ _) (Nat.le_refl _) (by simp) ?_; (case hd => rfl); (case hg => rfl); (case hr => first | (go_simp; done) | (go_simp; rfl)); (case hp => exact (Reps.c2 (show Kd.M k91 _ _ _ (⟨1, 5⟩ : S91) [.int .i64 1, .int .i64 5] from (k91_mkM _ _ _ (⟨1, 5⟩ : S91) )) (Reps.c2 (show Kd.M k91 _ _ _ (⟨2, 0⟩ : S91) [.int .i64 2, .int .i64 0] from (k91_mkM _ _ _ (⟨2, 0⟩ : S91) )) (Reps.none _ _)))); intro v109 w7 ho8 hb hg_ hnew_; clear hg_ hnew_; (first | rw [← Ny108.out] at ho8 | (simp only [Int.reduceToNat] at ho8; rw [← Ny108.out] at ho8)); have n0_ := Aside0.mk (Kd.N_elder' (by (with_reducible repeat (first | apply Kd.N_alloc | apply Kd.N_drewN | apply Kd.N_drew)); exact HO107.out) (Kd.R_base ho8) hb); have n1_ := Aside0.mk (Kd.R_lower (Kd.R_newM (M := fun k_ => (w.heap.size ≤ k_)) ho8 (below_size (by repeat (first | (with_reducible first | exact HB.out | apply below_alloc | apply pw_below_drewN | apply below_drew1 | refine below_set ?_ GE101.out) | exact HB.out))) (fun k_ h_ => h_)) (below_size (by repeat (first | (with_reducible first | exact HB.out | apply below_alloc | apply pw_below_drewN | apply below_drew1 | refine below_set ?_ GE101.out) | exact HB.out)))); have n2_ := Aside0.mk (blk_below (g := gb101) (o := .cells #[.int .i64 0, .slice none 0 0, .slice none 0 0, .slice none 0 0, .slice none 0 0, .int .i64 0, .int .i64 0, .int .i64 0, .int .i64 0, .int .i64 0, .int .i64 0, .int .i64 0] 31 (0, 0)) (by (with_reducible repeat (first | refine blk_drewN ?_ _ | refine blk_drew ?_ | refine blk_alloc ?_ _)); exact BK101.out) hb); have n3_ := Aside0.mk (below_step (by repeat (first | (with_reducible first | exact HB.out | apply below_alloc | apply pw_below_drewN | apply below_drew1 | refine below_set ?_ GE101.out) | exact HB.out)) hb); clear HO107; clear BK101; clear HB; have HO107 := n0_; have HO110 := n1_; have BK101 := n2_; have HB := n3_; clear n0_ n1_ n2_ n3_; clear hb ho8; obtain ⟨Ao9, co9, eo9⟩ := Kd.R_slice HO110.out; subst eo9; obtain ⟨Ao10, co10, eo10⟩ := Kd.N_slice HO107.out; subst eo10; have hcz11_0 : w7.cell? ⟨gb101, 0, none⟩ = some (.int .i64 0) := (blk_cell BK101.out 0).trans rfl; have hcz11_1 : w7.cell? ⟨gb101, 1, none⟩ = some (.slice none 0 0) := (blk_cell BK101.out 1).trans rfl; have hcz11_2 : w7.cell? ⟨gb101, 2, none⟩ = some (.slice none 0 0) := (blk_cell BK101.out 2).trans rfl; have hcz11_3 : w7.cell? ⟨gb101, 3, none⟩ = some (.slice none 0 0) := (blk_cell BK101.out 3).trans rfl; have hcz11_4 : w7.cell? ⟨gb101, 4, none⟩ = some (.slice none 0 0) := (blk_cell BK101.out 4).trans rfl; have hcz11_5 : w7.cell? ⟨gb101, 5, none⟩ = some (.int .i64 0) := (blk_cell BK101.out 5).trans rfl; have hcz11_6 : w7.cell? ⟨gb101, 6, none⟩ = some (.int .i64 0) := (blk_cell BK101.out 6).trans rfl; have hcz11_7 : w7.cell? ⟨gb101, 7, none⟩ = some (.int .i64 0) := (blk_cell BK101.out 7).trans rfl; have hcz11_8 : w7.cell? ⟨gb101, 8, none⟩ = some (.int .i64 0) := (blk_cell BK101.out 8).trans rfl; have hcz11_9 : w7.cell? ⟨gb101, 9, none⟩ = some (.int .i64 0) := (blk_cell BK101.out 9).trans rfl; have hcz11_10 : w7.cell? ⟨gb101, 10, none⟩ = some (.int .i64 0) := (blk_cell BK101.out 10).trans rfl; have hcz11_11 : w7.cell? ⟨gb101, 11, none⟩ = some (.int .i64 0) := (blk_cell BK101.out 11).trans rfl; have hfz11_0 := blk_frozen BK101.out 0; have hfz11_1 := blk_frozen BK101.out 1; have hfz11_2 := blk_frozen BK101.out 2; have hfz11_3 := blk_frozen BK101.out 3; have hfz11_4 := blk_frozen BK101.out 4; have hfz11_5 := blk_frozen BK101.out 5; have hfz11_6 := blk_frozen BK101.out 6; have hfz11_7 := blk_frozen BK101.out 7; have hfz11_8 := blk_frozen BK101.out 8; have hfz11_9 := blk_frozen BK101.out 9; have hfz11_10 := blk_frozen BK101.out 10; have hfz11_11 := blk_frozen BK101.out 11))
  refine bodyPost_ret (results_cell_row rfl _ _ gb101 31 #[.int .i64 0, .slice Ao10 y105.length co10, .slice Ao9 y108.length co9, .slice none 0 0, .slice none 0 0, .int .i64 3, .int .i64 4, .int .i64 1, .int .i64 0, .int .i64 2, .int .i64 0, .int .i64 0] (0, 0) _ rfl (by (with_reducible repeat (first | refine blk_drewN ?_ _ | refine blk_drew ?_ | refine blk_alloc ?_ _)); refine blk_put (cs := #[.int .i64 0, .slice Ao10 y105.length co10, .slice Ao9 y108.length co9, .slice none 0 0, .slice none 0 0, .int .i64 3, .int .i64 4, .int .i64 1, .int .i64 0, .int .i64 2, .int .i64 0, .int .i64 0]) ?_ 11 _ rfl; (with_reducible repeat (first | refine blk_drewN ?_ _ | refine blk_drew ?_ | refine blk_alloc ?_ _)); refine blk_put (cs := #[.int .i64 0, .slice Ao10 y105.length co10, .slice Ao9 y108.length co9, .slice none 0 0, .slice none 0 0, .int .i64 3, .int .i64 4, .int .i64 1, .int .i64 0, .int .i64 2, .int .i64 0, .int .i64 0]) ?_ 10 _ rfl; (with_reducible repeat (first | refine blk_drewN ?_ _ | refine blk_drew ?_ | refine blk_alloc ?_ _)); refine blk_put (cs := #[.int .i64 0, .slice Ao10 y105.length co10, .slice Ao9 y108.length co9, .slice none 0 0, .slice none 0 0, .int .i64 3, .int .i64 4, .int .i64 1, .int .i64 0, .int .i64 0, .int .i64 0, .int .i64 0]) ?_ 9 _ rfl; (with_reducible repeat (first | refine blk_drewN ?_ _ | refine blk_drew ?_ | refine blk_alloc ?_ _)); refine blk_put (cs := #[.int .i64 0, .slice Ao10 y105.length co10, .slice Ao9 y108.length co9, .slice none 0 0, .slice none 0 0, .int .i64 3, .int .i64 4, .int .i64 1, .int .i64 0, .int .i64 0, .int .i64 0, .int .i64 0]) ?_ 8 _ rfl; (with_reducible repeat (first | refine blk_drewN ?_ _ | refine blk_drew ?_ | refine blk_alloc ?_ _)); refine blk_put (cs := #[.int .i64 0, .slice Ao10 y105.length co10, .slice Ao9 y108.length co9, .slice none 0 0, .slice none 0 0, .int .i64 3, .int .i64 4, .int .i64 0, .int .i64 0, .int .i64 0, .int .i64 0, .int .i64 0]) ?_ 7 _ rfl; (with_reducible repeat (first | refine blk_drewN ?_ _ | refine blk_drew ?_ | refine blk_alloc ?_ _)); refine blk_put (cs := #[.int .i64 0, .slice Ao10 y105.length co10, .slice Ao9 y108.length co9, .slice none 0 0, .slice none 0 0, .int .i64 3, .int .i64 0, .int .i64 0, .int .i64 0, .int .i64 0, .int .i64 0, .int .i64 0]) ?_ 6 _ rfl; (with_reducible repeat (first | refine blk_drewN ?_ _ | refine blk_drew ?_ | refine blk_alloc ?_ _)); refine blk_put (cs := #[.int .i64 0, .slice Ao10 y105.length co10, .slice Ao9 y108.length co9, .slice none 0 0, .slice none 0 0, .int .i64 0, .int .i64 0, .int .i64 0, .int .i64 0, .int .i64 0, .int .i64 0, .int .i64 0]) ?_ 5 _ rfl; (with_reducible repeat (first | refine blk_drewN ?_ _ | refine blk_drew ?_ | refine blk_alloc ?_ _)); refine blk_put (cs := #[.int .i64 0, .slice Ao10 y105.length co10, .slice Ao9 y108.length co9, .slice none 0 0, .slice none 0 0, .int .i64 0, .int .i64 0, .int .i64 0, .int .i64 0, .int .i64 0, .int .i64 0, .int .i64 0]) ?_ 4 _ rfl; (with_reducible repeat (first | refine blk_drewN ?_ _ | refine blk_drew ?_ | refine blk_alloc ?_ _)); refine blk_put (cs := #[.int .i64 0, .slice Ao10 y105.length co10, .slice Ao9 y108.length co9, .slice none 0 0, .slice none 0 0, .int .i64 0, .int .i64 0, .int .i64 0, .int .i64 0, .int .i64 0, .int .i64 0, .int .i64 0]) ?_ 3 _ rfl; (with_reducible repeat (first | refine blk_drewN ?_ _ | refine blk_drew ?_ | refine blk_alloc ?_ _)); refine blk_put (cs := #[.int .i64 0, .slice Ao10 y105.length co10, .slice none 0 0, .slice none 0 0, .slice none 0 0, .int .i64 0, .int .i64 0, .int .i64 0, .int .i64 0, .int .i64 0, .int .i64 0, .int .i64 0]) ?_ 2 _ rfl; (with_reducible repeat (first | refine blk_drewN ?_ _ | refine blk_drew ?_ | refine blk_alloc ?_ _)); refine blk_put (cs := #[.int .i64 0, .slice none 0 0, .slice none 0 0, .slice none 0 0, .slice none 0 0, .int .i64 0, .int .i64 0, .int .i64 0, .int .i64 0, .int .i64 0, .int .i64 0, .int .i64 0]) ?_ 1 _ rfl; (with_reducible repeat (first | refine blk_drewN ?_ _ | refine blk_drew ?_ | refine blk_alloc ?_ _)); refine blk_put (cs := #[.int .i64 0, .slice none 0 0, .slice none 0 0, .slice none 0 0, .slice none 0 0, .int .i64 0, .int .i64 0, .int .i64 0, .int .i64 0, .int .i64 0, .int .i64 0, .int .i64 0]) ?_ 0 _ rfl; (with_reducible repeat (first | refine blk_drewN ?_ _ | refine blk_drew ?_ | refine blk_alloc ?_ _)); exact BK101.out) Try.underlying31 rfl (by kernel_rfl)) rfl ?_
  exact ⟨_, _, _, _, by first | rfl | (simp [errW_none, errW_some] <;> rfl) | (simp [*, errW_none, errW_some] <;> rfl), by (with_reducible repeat (first | apply Kd.N_alloc | apply Kd.N_drewN | apply Kd.N_drew)); exact Kd.N_mono (Kd.N_far (p := ⟨gb101, 11, none⟩) (Kd.N_far (p := ⟨gb101, 10, none⟩) (Kd.N_far (p := ⟨gb101, 9, none⟩) (Kd.N_far (p := ⟨gb101, 8, none⟩) (Kd.N_far (p := ⟨gb101, 7, none⟩) (Kd.N_far (p := ⟨gb101, 6, none⟩) (Kd.N_far (p := ⟨gb101, 5, none⟩) (Kd.N_far (p := ⟨gb101, 4, none⟩) (Kd.N_far (p := ⟨gb101, 3, none⟩) (Kd.N_far (p := ⟨gb101, 2, none⟩) (Kd.N_far (p := ⟨gb101, 1, none⟩) (Kd.N_far (p := ⟨gb101, 0, none⟩) (Kd.N_mono HO107.out (fun k_ hk => (⟨hk, hk.1.2⟩ : _ ∧ k_ ≠ gb101))) (fun _ hk => hk.2) (.int .i64 0)) (fun _ hk => hk.2) (.slice Ao10 y105.length co10)) (fun _ hk => hk.2) (.slice Ao9 y108.length co9)) (fun _ hk => hk.2) (.slice none 0 0)) (fun _ hk => hk.2) (.slice none 0 0)) (fun _ hk => hk.2) (.int .i64 3)) (fun _ hk => hk.2) (.int .i64 4)) (fun _ hk => hk.2) (.int .i64 1)) (fun _ hk => hk.2) (.int .i64 0)) (fun _ hk => hk.2) (.int .i64 2)) (fun _ hk => hk.2) (.int .i64 0)) (fun _ hk => hk.2) (.int .i64 0)) (fun _ hk => ⟨hk.1.1.1, ⟨hk.1.2, ⟨(by simp [Value.ownBlock]), (by simp [Value.ownBlock])⟩⟩⟩), by (with_reducible repeat (first | apply Kd.R_alloc | apply Kd.R_drewN | apply Kd.R_drew)); exact Kd.R_mono (Kd.R_far (p := ⟨gb101, 11, none⟩) (Kd.R_far (p := ⟨gb101, 10, none⟩) (Kd.R_far (p := ⟨gb101, 9, none⟩) (Kd.R_far (p := ⟨gb101, 8, none⟩) (Kd.R_far (p := ⟨gb101, 7, none⟩) (Kd.R_far (p := ⟨gb101, 6, none⟩) (Kd.R_far (p := ⟨gb101, 5, none⟩) (Kd.R_far (p := ⟨gb101, 4, none⟩) (Kd.R_far (p := ⟨gb101, 3, none⟩) (Kd.R_far (p := ⟨gb101, 2, none⟩) (Kd.R_far (p := ⟨gb101, 1, none⟩) (Kd.R_far (p := ⟨gb101, 0, none⟩) (Kd.R_types HO110.out BK101.out (by decide)) (fun _ hk => hk.2) (.int .i64 0)) (fun _ hk => hk.2) (.slice Ao10 y105.length co10)) (fun _ hk => hk.2) (.slice Ao9 y108.length co9)) (fun _ hk => hk.2) (.slice none 0 0)) (fun _ hk => hk.2) (.slice none 0 0)) (fun _ hk => hk.2) (.int .i64 3)) (fun _ hk => hk.2) (.int .i64 4)) (fun _ hk => hk.2) (.int .i64 1)) (fun _ hk => hk.2) (.int .i64 0)) (fun _ hk => hk.2) (.int .i64 2)) (fun _ hk => hk.2) (.int .i64 0)) (fun _ hk => hk.2) (.int .i64 0)) (fun _ hk => hk.1.1), by first | exact Kd.R_nil _ _ _ _ _ | exact Kd.N_nil _ _ _ _ _ | exact Kd.V_nil _ _ _ _ _ | exact Kd.Q_nil _ _ _ _ _ | exact Kd.S_nil _ _ _ _ _, by first | exact Kd.R_nil _ _ _ _ _ | exact Kd.N_nil _ _ _ _ _ | exact Kd.V_nil _ _ _ _ _ | exact Kd.Q_nil _ _ _ _ _ | exact Kd.S_nil _ _ _ _ _, by repeat (first | (with_reducible first | exact HB.out | apply below_alloc | apply pw_below_drewN | apply below_drew1 | refine below_set ?_ GE101.out) | exact HB.out)⟩
end Go.Proofs.Ytdadnapfecmmdaa.P
namespace Go.Proofs.Ytdadnapfecmmdaa.P
set_option linter.unusedVariables false
set_option linter.unusedSimpArgs false
open Go.RowKit Go.Proofs.YtdadnapfecmmdaaW.PrintWords Go.Proofs.YtdadnapfecmmdaaW.PrintLast Go.Proofs.YtdadnapfecmmdaaW.PrintMore
open Go.Proofs.Ytdadnapfecmmdaa.Hm
def exC : Cfg := ⟨0, [⟨⟨#[119, 101, 98]⟩, 1, 10, 0, 0, [⟨#[100, 98]⟩]⟩, ⟨⟨#[100, 98]⟩, 2, 4, 0, 0, []⟩], [⟨1, 5⟩, ⟨2, 0⟩], [], [], 3, 4, 1, 0, 2, 0, 0⟩
def exT : List Tr := [⟨3145729, [⟨3145729, 1, 0, 0, 1, 3, ⟨#[119, 101, 98]⟩, ⟨#[]⟩, strServe, 3005, 3019, false⟩, ⟨3145729, 2, 1, 0, 1, 2, ⟨#[119, 101, 98]⟩, ⟨#[]⟩, strCall, 3010, 3014, false⟩, ⟨3145729, 3, 2, 0, 2, 3, ⟨#[100, 98]⟩, ⟨#[]⟩, strServe, 3005, 3009, false⟩]⟩]
theorem ex_valid : Valid exC where
  seed0 := by decide
  seed1 := by decide
  n0 := by decide
  n1 := by decide
  nf := by decide
  sname := fun i h => match i, h with
    | 0, _ => NameOk.of (by kernel_rfl)
    | 1, _ => NameOk.of (by kernel_rfl)
  sidx := fun i h => match i, h with
    | 0, _ => by rw [show svIdx exC.sv exC.sv[0].f0 = 0 from by kernel_rfl]; decide
    | 1, _ => by rw [show svIdx exC.sv exC.sv[1].f0 = 1 from by kernel_rfl]; decide
  srange := fun i h => match i, h with
    | 0, _ => by simp [exC]
    | 1, _ => by simp [exC]
  slen := fun i h => match i, h with
    | 0, _ => by simp [exC]
    | 1, _ => by simp [exC]
  scall := fun i h => match i, h with
    | 0, _ => fun nm hm => by
      obtain rfl : nm = ⟨#[100, 98]⟩ := List.mem_singleton.mp hm
      rw [show svIdx exC.sv ⟨#[100, 98]⟩ = 1 from by kernel_rfl]; decide
    | 1, _ => fun nm hm => by cases hm
  off := fun i h => match i, h with
    | 0, _ => by simp [exC]
    | 1, _ => by simp [exC]
  offn := by decide
  offo := fun i h => match i, h with
    | 0, _ => by simp [exC]
  gap := fun i h => match i, h with
    | 0, _ => by kernel_rfl
    | 1, _ => by kernel_rfl
  ch := by kernel_rfl
  fsvc := fun i h => absurd h (Nat.not_lt_zero i)
  fver := fun i h => absurd h (Nat.not_lt_zero i)
  fwhen := fun i h => absurd h (Nat.not_lt_zero i)
  frange := fun i h => absurd h (Nat.not_lt_zero i)
  t0 := by decide
  t1 := by decide
  t2 := by decide
  t3 := by decide
  per0 := by decide
  per1 := by decide
  del0 := by decide
  del1 := by decide
  chu0 := by decide
  chu1 := by decide
  los0 := by decide
  los1 := by decide
  rep0 := by decide
  rep1 := by decide
  cnt := by rw [show cntOf exC.sv = 3 from by kernel_rfl]; decide
theorem ex_check : ckAll 20 exC = some 0 := ckAll_ok ex_valid 20
theorem ex_traces : tracesV 20 exC (shiftSp exC.off) = some exT := by kernel_rfl
end Go.Proofs.Ytdadnapfecmmdaa.P
