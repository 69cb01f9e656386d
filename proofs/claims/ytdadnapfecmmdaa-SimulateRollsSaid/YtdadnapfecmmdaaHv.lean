/- The closures that show a span (simulate.Traces$1, simulate.Truth$1). -/
import Derived.Test.YtdadnapfecmmdaaHu
import Derived.Test.YtdadnapfecmmdaaHa
namespace Go.Proofs.Ytdadnapfecmmdaa.P
set_option linter.unusedVariables false
set_option linter.unusedSimpArgs false
open Go.RowKit Go.Proofs.YtdadnapfecmmdaaW.PrintWords Go.Proofs.YtdadnapfecmmdaaW.PrintLast Go.Proofs.YtdadnapfecmmdaaW.PrintMore
open Go.Proofs.Ytdadnapfecmmdaa.Hm
def shiftSp (off : List S91) (s : Sp) : Sp := { s with st := wrap64 (s.st + (offOf off s.clk).1), en := wrap64 (s.en + (offOf off s.clk).1) }
/-- What a closure that shows spans does: the span at an index of a row becomes f of it. -/
def Shows (fid : Nat) (caps : Array Value) (f : Sp → Sp) (base : Nat) (w0 : World) (ok : World → Prop) : Prop :=
  (∀ (args : Array Value) (w : World), (callFunc fid args).run Try.prog w = .ok (.enter fid args) w) ∧
  ∀ (W : World) (r cp b j : Nat) (l : List Sp) (hj : j < l.length), ok W → Below base w0 W → base ≤ b → b ≤ W.heap.size → W.ownsRow b 56 14 (.slice (some ⟨r, 0, none⟩) l.length cp) l.length (spc l) →
    Calls Try.prog fid (#[.pointer (some ⟨r, j * 14, none⟩)] ++ caps) W fun e w' => e = .returned (.tuple #[]) ∧ w'.ownsRow b 56 14 (.slice (some ⟨r, 0, none⟩) l.length cp) l.length (spc (l.set j (f l[j]))) ∧ Below b W w' ∧ ∀ i, i < W.heap.size → i ≠ r → w'.heap[i]? = W.heap[i]?
theorem truth_shows (base : Nat) (w0 : World) : Shows 41 #[] id base w0 (fun _ => True) := by
  refine ⟨fun args w => enters_ Try.func41 (by kernel_rfl) rfl args w, fun W r cp b j l hj _ _ _ _ ho => ?_⟩
  have HO := Aside0.mk ho
  clear ho
  simp only [Array.append_empty]
  go_enter Try.func41, Try.ntmps41
  go_wp2_with fail
  go_returns
  refine ⟨by rfl, ?_, Below.refl _ _, fun _ _ _ => rfl⟩
  simpa using HO.out
theorem own_cell56 {W : World} {b r cp : Nat} {l : List Sp} (ho : W.ownsRow b 56 14 (.slice (some ⟨r, 0, none⟩) l.length cp) l.length (spc l)) (j i : Nat) (hj : j < l.length) (hi : i < 14) : W.cell? ⟨r, j * 14 + i, none⟩ = (l[j].cells)[i]? ∧ W.frozen? ⟨r, j * 14 + i, none⟩ = false ∧ b ≤ r ∧ r < W.heap.size := by
  rcases ho.2 with ⟨_, h⟩ | ⟨r', cap, cur, e, hb, hr, h1, h2, h3, h4⟩
  · omega
  · injection e with e
    injection e with e
    injection e with e
    subst e
    have hc : ∀ i, i < l.length * 14 → cur[i]? = (spc l)[i]? := fun i hi => by
      rw [← h4, List.getElem?_take, if_pos hi, Array.getElem?_toList]
    exact ⟨by rw [blk_cell hr, hc _ (by omega), spc_get l j i hj hi], blk_frozen hr _, hb, blk_lt hr⟩
theorem own_shift {W : World} {b r cp : Nat} {l : List Sp} (ho : W.ownsRow b 56 14 (.slice (some ⟨r, 0, none⟩) l.length cp) l.length (spc l)) (j : Nat) (hj : j < l.length) (st en : Int) :
    ((W.setCell ⟨r, j * 14 + 9, none⟩ (.int .i64 st)).setCell ⟨r, j * 14 + 10, none⟩ (.int .i64 en)).ownsRow b 56 14 (.slice (some ⟨r, 0, none⟩) l.length cp) l.length (spc (l.set j { l[j] with st := st, en := en })) := by
  obtain ⟨o1, g1⟩ := ho.stored (j * 14 + 9) (.int .i64 st)
  obtain ⟨o2, g2⟩ := o1.stored (j * 14 + 10) (.int .i64 en)
  rw [spc_set l j 9 (.int .i64 st) { l[j] with st := st } hj (by omega) rfl] at o1 o2
  rw [spc_set (l.set j { l[j] with st := st }) j 10 (.int .i64 en) { l[j] with st := st, en := en } (by simpa using hj) (by omega) (by simp [Sp.cells])] at o2
  simpa using o2
def showT.T0 : Bool × List (List Nat × List Nat) := (true, [([], []), ([], []), ([1], [1]), ([2], [2]), ([3], [3]), ([0, 4], [0, 4]), ([5], [5]), ([6], [6]), ([6], [6]), ([7, 5, 0, 1, 2, 3, 4, 5, 6, 7], [7]), ([8, 9, 0, 1, 2, 3, 4, 5, 6, 7, 8, 9], [8])])
def showT.B0 : List Nat := [0, 0, 2, 6, 14, 31, 63, 127, 127, 255, 1023]
theorem showT.tab0 : rtab .any (opsOf Try.f37 0) = showT.T0 := by kernel_rfl
theorem showT.bits0 : waitsOk showT.T0.2 showT.B0 = true := by kernel_rfl
def showT.T1 : Bool × List (List Nat × List Nat) := (true, [([], []), ([], []), ([], []), ([2], [2]), ([3], [3]), ([4], [4]), ([], []), ([5, 6], [5, 6]), ([], []), ([8], [8]), ([9], [9]), ([10], [10]), ([], []), ([11, 12], [11, 12]), ([0, 0, 2, 3, 4, 5, 6, 7, 11], [0]), ([14, 0, 2, 3, 4, 5, 6, 7, 11], [14]), ([15, 7, 0, 2, 3, 4, 5, 6, 7, 11], [7, 15]), ([1, 0, 1, 2, 3, 4, 5, 6, 7, 8, 9, 10, 11, 12, 13, 14, 15, 16], [1]), ([17, 0, 1, 2, 3, 4, 5, 6, 7, 8, 9, 10, 11, 12, 13, 14, 15, 16], [17]), ([18, 13, 16, 0, 1, 2, 3, 4, 5, 6, 7, 8, 9, 10, 11, 12, 13, 14, 15, 16], [13, 18])])
def showT.B1 : List Nat := [0, 0, 0, 4, 12, 28, 0, 124, 0, 256, 768, 1792, 0, 7936, 4093, 20477, 53245, 131071, 262143, 524287]
theorem showT.tab1 : rtab .any (opsOf Try.f37 1) = showT.T1 := by kernel_rfl
theorem showT.bits1 : waitsOk showT.T1.2 showT.B1 = true := by kernel_rfl
set_option maxHeartbeats 8000000 in
set_option maxRecDepth 100000 in
theorem traces_shows (w0 : World) (c : Cfg) (p : CfgAt) (bx : Nat) (hR : CfgR w0 p c) : Shows 37 #[pv bx] (shiftSp c.off) w0.heap.size w0 (fun W => W.heap[bx]? = some (.cells (c.cells p) 31 (0, 0))) := by
  refine ⟨fun args w => enters_ Try.func37 (by kernel_rfl) rfl args w, fun W r cp b j l hj hC hB hbb hbW ho => ?_⟩
  obtain ⟨e4, _, hbr, hrW⟩ := own_cell56 ho j 4 hj (by omega)
  have CR := Aside0.mk (hR.below hB)
  have HO := Aside0.mk ho
  have HC := Aside0.mk hC
  obtain ⟨A1, c1, A2, c2, A3, c3, A4, c4⟩ := p
  have q0 : W.cell? ⟨r, j * 14 + 4, none⟩ = some (.int .i64 l[j].clk) := e4
  have q1 : W.cell? ⟨bx, 0, none⟩ = some (.int .i64 c.seed) := (blk_cell HC.out 0).trans rfl
  have q2 : W.cell? ⟨bx, 1, none⟩ = some (.slice A1 c.sv.length c1) := (blk_cell HC.out 1).trans rfl
  have q3 : W.cell? ⟨bx, 2, none⟩ = some (.slice A2 c.off.length c2) := (blk_cell HC.out 2).trans rfl
  have q4 : W.cell? ⟨bx, 3, none⟩ = some (.slice A3 c.ch.length c3) := (blk_cell HC.out 3).trans rfl
  have q5 : W.cell? ⟨bx, 4, none⟩ = some (.slice A4 c.fl.length c4) := (blk_cell HC.out 4).trans rfl
  have q6 : W.cell? ⟨bx, 5, none⟩ = some (.int .i64 c.sfrom) := (blk_cell HC.out 5).trans rfl
  have q7 : W.cell? ⟨bx, 6, none⟩ = some (.int .i64 c.sto) := (blk_cell HC.out 6).trans rfl
  have q8 : W.cell? ⟨bx, 7, none⟩ = some (.int .i64 c.per) := (blk_cell HC.out 7).trans rfl
  have q9 : W.cell? ⟨bx, 8, none⟩ = some (.int .i64 c.delay) := (blk_cell HC.out 8).trans rfl
  have q10 : W.cell? ⟨bx, 9, none⟩ = some (.int .i64 c.chunk) := (blk_cell HC.out 9).trans rfl
  have q11 : W.cell? ⟨bx, 10, none⟩ = some (.int .i64 c.loss) := (blk_cell HC.out 10).trans rfl
  have q12 : W.cell? ⟨bx, 11, none⟩ = some (.int .i64 c.rep) := (blk_cell HC.out 11).trans rfl
  have EO := Aside0.mk (show shiftSp c.off l[j] = { l[j] with st := wrap64 (l[j].st + (offOf c.off l[j].clk).1), en := wrap64 (l[j].en + (offOf c.off l[j].clk).1) } from rfl)
  clear ho hC e4 hB hR
  simp only [List.append_toArray, List.cons_append, List.nil_append]
  go_enter Try.func37, Try.ntmps37
  go_wp2_with fail
  refine start_ (n := 11) (S := fun w' => Below W.heap.size W w') (ds := []) #[false, false, false, false, false, false, false, false, false, false, false] (by kernel_rfl) rfl rfl (Below.refl _ _).drew (fun hHeld => ?_)
  refine with_tabW showT.tab0 showT.bits0 (fun HT_ HW_ => ?_)
  generalize W.drew = wd at hHeld ⊢
  refine take_ (i := 0) (N := some 6) (v := ?_) (a' := ?_) #[true, false, false, false, false, false, false, false, false, false, false] rfl rfl (take_ofW HT_.out HW_.out (by kernel_rfl)) (fun _ _ _ h => h) (Or.inl ⟨by rfl, ?_⟩) hHeld ?_ ?_
  rotate_left
  · intro w' hS
    replace q0 := (hS.cell (World.block_lt_of_cell? _ _ q0)).trans q0
    replace q1 := (hS.cell (World.block_lt_of_cell? _ _ q1)).trans q1
    replace q2 := (hS.cell (World.block_lt_of_cell? _ _ q2)).trans q2
    replace q3 := (hS.cell (World.block_lt_of_cell? _ _ q3)).trans q3
    replace q4 := (hS.cell (World.block_lt_of_cell? _ _ q4)).trans q4
    replace q5 := (hS.cell (World.block_lt_of_cell? _ _ q5)).trans q5
    replace q6 := (hS.cell (World.block_lt_of_cell? _ _ q6)).trans q6
    replace q7 := (hS.cell (World.block_lt_of_cell? _ _ q7)).trans q7
    replace q8 := (hS.cell (World.block_lt_of_cell? _ _ q8)).trans q8
    replace q9 := (hS.cell (World.block_lt_of_cell? _ _ q9)).trans q9
    replace q10 := (hS.cell (World.block_lt_of_cell? _ _ q10)).trans q10
    replace q11 := (hS.cell (World.block_lt_of_cell? _ _ q11)).trans q11
    replace q12 := (hS.cell (World.block_lt_of_cell? _ _ q12)).trans q12
    go_simp
    with_reducible rfl
  rotate_left
  · simp only [Act.put, List.setIfInBounds_toArray, List.set_cons_zero, List.set_cons_succ, i64_w, i32_w]
    rfl
  refine pure_ (i := 1) (N := some 7) (v := ?_) (a' := ?_) #[true, true, false, false, false, false, false, false, false, false, false] rfl rfl (any_of HT_.out (by kernel_rfl)) (fun _ _ _ h => h) (Or.inl ⟨by rfl, ?_⟩) ?_ ?_
  rotate_left
  · intro w'
    go_simp
    with_reducible rfl
  rotate_left
  · simp only [Act.put, List.setIfInBounds_toArray, List.set_cons_zero, List.set_cons_succ, i64_w, i32_w]
    rfl
  refine pure_ (i := 2) (N := some 8) (v := ?_) (a' := ?_) #[true, true, true, false, false, false, false, false, false, false, false] rfl rfl (any_of HT_.out (by kernel_rfl)) (fun _ _ _ h => h) (Or.inl ⟨by rfl, ?_⟩) ?_ ?_
  rotate_left
  · intro w'
    go_simp
    with_reducible rfl
  rotate_left
  · simp only [Act.put, List.setIfInBounds_toArray, List.set_cons_zero, List.set_cons_succ, i64_w, i32_w]
    rfl
  refine pure_ (i := 3) (N := some 9) (v := ?_) (a' := ?_) #[true, true, true, true, false, false, false, false, false, false, false] rfl rfl (any_of HT_.out (by kernel_rfl)) (fun _ _ _ h => h) (Or.inl ⟨by rfl, ?_⟩) ?_ ?_
  rotate_left
  · intro w'
    go_simp
    with_reducible rfl
  rotate_left
  · simp only [Act.put, List.setIfInBounds_toArray, List.set_cons_zero, List.set_cons_succ, i64_w, i32_w]
    rfl
  refine take_ (i := 4) (N := some 10) (v := ?_) (a' := ?_) #[true, true, true, true, true, false, false, false, false, false, false] rfl rfl (take_ofW HT_.out HW_.out (by kernel_rfl)) (fun _ _ _ h => h) (Or.inl ⟨by rfl, ?_⟩) hHeld ?_ ?_
  rotate_left
  · intro w' hS
    replace q0 := (hS.cell (World.block_lt_of_cell? _ _ q0)).trans q0
    replace q1 := (hS.cell (World.block_lt_of_cell? _ _ q1)).trans q1
    replace q2 := (hS.cell (World.block_lt_of_cell? _ _ q2)).trans q2
    replace q3 := (hS.cell (World.block_lt_of_cell? _ _ q3)).trans q3
    replace q4 := (hS.cell (World.block_lt_of_cell? _ _ q4)).trans q4
    replace q5 := (hS.cell (World.block_lt_of_cell? _ _ q5)).trans q5
    replace q6 := (hS.cell (World.block_lt_of_cell? _ _ q6)).trans q6
    replace q7 := (hS.cell (World.block_lt_of_cell? _ _ q7)).trans q7
    replace q8 := (hS.cell (World.block_lt_of_cell? _ _ q8)).trans q8
    replace q9 := (hS.cell (World.block_lt_of_cell? _ _ q9)).trans q9
    replace q10 := (hS.cell (World.block_lt_of_cell? _ _ q10)).trans q10
    replace q11 := (hS.cell (World.block_lt_of_cell? _ _ q11)).trans q11
    replace q12 := (hS.cell (World.block_lt_of_cell? _ _ q12)).trans q12
    go_simp
    with_reducible rfl
  rotate_left
  · simp only [Act.put, List.setIfInBounds_toArray, List.set_cons_zero, List.set_cons_succ, i64_w, i32_w]
    rfl
  refine one_ (i := 5) (N := some 11) #[true, true, true, true, true, true, false, false, false, false, false] rfl rfl (one_of HT_.out (by kernel_rfl)) (by decide) (fun K hK => ?_)
  refine goes_ Try.func38 (by kernel_rfl) rfl #[c.val ⟨A1, c1, A2, c2, A3, c3, A4, c4⟩, .int .i64 l[j].clk] (by rfl) rfl rfl (by (try simp only [List.map_toArray, List.map_cons, List.map_nil]); first | done | rfl | (simp only [List.length_drop, List.length_take]; rfl)) ?_
  with_reducible refine (offset_calls c ⟨A1, c1, A2, c2, A3, c3, A4, c4⟩ l[j].clk _ (CR.out.below hHeld)).mono ?_
  rintro e wx ⟨rfl, hb⟩
  refine ⟨_, rfl, ?_⟩
  replace hHeld := below_step hHeld hb
  clear hb
  refine hK.out _ _ hHeld (fun hHeld => ?_)
  clear hK K
  refine norm_ (a' := ?_) ?_ ?_
  rotate_left
  · show Act.put _ (some 11) _ = _
    simp only [Act.put, List.setIfInBounds_toArray, List.set_cons_zero, List.set_cons_succ, i64_w, i32_w]
    rfl
  refine pure_ (i := 6) (N := some 5) (v := ?_) (a' := ?_) #[true, true, true, true, true, true, true, false, false, false, false] rfl rfl (any_of HT_.out (by kernel_rfl)) (fun _ _ _ h => h) (Or.inl ⟨by rfl, ?_⟩) ?_ ?_
  rotate_left
  · intro w'
    go_simp
    with_reducible rfl
  rotate_left
  · simp only [Act.put, List.setIfInBounds_toArray, List.set_cons_zero, List.set_cons_succ, i64_w, i32_w]
    rfl
  refine pure_ (i := 7) (N := some 12) (v := ?_) (a' := ?_) #[true, true, true, true, true, true, true, true, false, false, false] rfl rfl (any_of HT_.out (by kernel_rfl)) (fun _ _ _ h => h) (Or.inl ⟨by rfl, ?_⟩) ?_ ?_
  rotate_left
  · intro w'
    go_simp
    with_reducible rfl
  rotate_left
  · simp only [Act.put, List.setIfInBounds_toArray, List.set_cons_zero, List.set_cons_succ, i64_w, i32_w]
    rfl
  refine pure_ (i := 8) (N := some 13) (v := ?_) (a' := ?_) #[true, true, true, true, true, true, true, true, true, false, false] rfl rfl (any_of HT_.out (by kernel_rfl)) (fun _ _ _ h => h) (Or.inl ⟨by rfl, ?_⟩) ?_ ?_
  rotate_left
  · intro w'
    go_simp
    with_reducible rfl
  rotate_left
  · simp only [Act.put, List.setIfInBounds_toArray, List.set_cons_zero, List.set_cons_succ, i64_w, i32_w]
    rfl
  refine pure_ (i := 9) (N := some 3) (v := ?_) (a' := ?_) #[true, true, true, true, true, true, true, true, true, true, false] rfl rfl (any_of HT_.out (by kernel_rfl)) (fun _ _ _ h => h) (Or.inl ⟨by rfl, ?_⟩) ?_ ?_
  rotate_left
  · intro w'
    go_simp
    with_reducible rfl
  rotate_left
  · simp only [Act.put, List.setIfInBounds_toArray, List.set_cons_zero, List.set_cons_succ, i64_w, i32_w]
    rfl
  refine pure_ (i := 10) (N := some 4) (v := ?_) (a' := ?_) #[true, true, true, true, true, true, true, true, true, true, true] rfl rfl (any_of HT_.out (by kernel_rfl)) (fun _ _ _ h => h) (Or.inl ⟨by rfl, ?_⟩) ?_ ?_
  rotate_left
  · intro w'
    go_simp
    with_reducible rfl
  rotate_left
  · simp only [Act.put, List.setIfInBounds_toArray, List.set_cons_zero, List.set_cons_succ, i64_w, i32_w]
    rfl
  refine done_ (done_of HT_.out (by kernel_rfl)) ?_
  obtain ⟨off, hoff⟩ : ∃ o : Int, o = (offOf c.off l[j].clk).1 := ⟨_, rfl⟩
  rw [← hoff] at EO ⊢
  have HO1 := Aside0.mk (pw_own_below HO.out hHeld)
  have hd : Below wx.heap.size wx wx.drew := (Below.refl _ _).drew
  have HO2 := Aside0.mk (pw_own_below HO1.out hd)
  have HB2 := Aside0.mk ((below_step hHeld hd).mono hbW)
  have HB3 := Aside0.mk (below_step hHeld hd)
  obtain ⟨e9, _, _, _⟩ := own_cell56 HO1.out j 9 hj (by omega)
  obtain ⟨e10, _, _, _⟩ := own_cell56 HO1.out j 10 hj (by omega)
  obtain ⟨g9, f9, _, _⟩ := own_cell56 HO2.out j 9 hj (by omega)
  obtain ⟨g10, f10, _, _⟩ := own_cell56 HO2.out j 10 hj (by omega)
  replace e9 : wx.cell? ⟨r, j * 14 + 9, none⟩ = some (.int .i64 l[j].st) := e9
  replace e10 : wx.cell? ⟨r, j * 14 + 10, none⟩ = some (.int .i64 l[j].en) := e10
  replace g9 : wx.drew.cell? ⟨r, j * 14 + 9, none⟩ = some (.int .i64 l[j].st) := g9
  replace g10 : wx.drew.cell? ⟨r, j * 14 + 10, none⟩ = some (.int .i64 l[j].en) := g10
  clear hHeld hd hoff HO HO1 q0 q1 q2 q3 q4 q5 q6 q7 q8 q9 q10 q11 q12
  go_wp2_with fail
  refine start_ (n := 20) (S := fun w' => Below wx.heap.size wx w') (ds := [16, 19]) #[false, false, false, false, false, false, false, false, false, false, false, false, false, false, false, false, false, false, false, false] (by kernel_rfl) rfl rfl (Below.refl _ _).drew (fun hHeld => ?_)
  refine with_tabW showT.tab1 showT.bits1 (fun HT_ HW_ => ?_)
  generalize wx.drew = wz at hHeld HO2 HB2 HB3 g9 g10 f9 f10 ⊢
  refine with_tabW showT.tab1 showT.bits1 (fun HT_ HW_ => ?_)
  refine pure_ (i := 0) (N := some 14) (v := ?_) (a' := ?_) #[true, false, false, false, false, false, false, false, false, false, false, false, false, false, false, false, false, false, false, false] rfl rfl (any_of HT_.out (by kernel_rfl)) (fun _ _ _ h => h) (Or.inl ⟨by rfl, ?_⟩) ?_ ?_
  rotate_left
  · intro w'
    go_simp
    with_reducible rfl
  rotate_left
  · simp only [Act.put, List.setIfInBounds_toArray, List.set_cons_zero, List.set_cons_succ, i64_w, i32_w]
    rfl
  refine pure_ (i := 1) (N := some 15) (v := ?_) (a' := ?_) #[true, true, false, false, false, false, false, false, false, false, false, false, false, false, false, false, false, false, false, false] rfl rfl (any_of HT_.out (by kernel_rfl)) (fun _ _ _ h => h) (Or.inl ⟨by rfl, ?_⟩) ?_ ?_
  rotate_left
  · intro w'
    go_simp
    with_reducible rfl
  rotate_left
  · simp only [Act.put, List.setIfInBounds_toArray, List.set_cons_zero, List.set_cons_succ, i64_w, i32_w]
    rfl
  refine pure_ (i := 2) (N := some 16) (v := ?_) (a' := ?_) #[true, true, true, false, false, false, false, false, false, false, false, false, false, false, false, false, false, false, false, false] rfl rfl (any_of HT_.out (by kernel_rfl)) (fun _ _ _ h => h) (Or.inl ⟨by rfl, ?_⟩) ?_ ?_
  rotate_left
  · intro w'
    go_simp
    with_reducible rfl
  rotate_left
  · simp only [Act.put, List.setIfInBounds_toArray, List.set_cons_zero, List.set_cons_succ, i64_w, i32_w]
    rfl
  refine pure_ (i := 3) (N := some 17) (v := ?_) (a' := ?_) #[true, true, true, true, false, false, false, false, false, false, false, false, false, false, false, false, false, false, false, false] rfl rfl (any_of HT_.out (by kernel_rfl)) (fun _ _ _ h => h) (Or.inl ⟨by rfl, ?_⟩) ?_ ?_
  rotate_left
  · intro w'
    go_simp
    with_reducible rfl
  rotate_left
  · simp only [Act.put, List.setIfInBounds_toArray, List.set_cons_zero, List.set_cons_succ, i64_w, i32_w]
    rfl
  refine pure_ (i := 4) (N := some 18) (v := ?_) (a' := ?_) #[true, true, true, true, true, false, false, false, false, false, false, false, false, false, false, false, false, false, false, false] rfl rfl (any_of HT_.out (by kernel_rfl)) (fun _ _ _ h => h) (Or.inl ⟨by rfl, ?_⟩) ?_ ?_
  rotate_left
  · intro w'
    go_simp
    with_reducible rfl
  rotate_left
  · simp only [Act.put, List.setIfInBounds_toArray, List.set_cons_zero, List.set_cons_succ, i64_w, i32_w]
    rfl
  refine take_ (i := 5) (N := some 19) (v := ?_) (a' := ?_) #[true, true, true, true, true, true, false, false, false, false, false, false, false, false, false, false, false, false, false, false] rfl rfl (take_ofW HT_.out HW_.out (by kernel_rfl)) (fun _ _ _ h => h) (Or.inl ⟨by rfl, ?_⟩) hHeld ?_ ?_
  rotate_left
  · intro w' hS
    replace e9 := (hS.cell (World.block_lt_of_cell? _ _ e9)).trans e9
    replace e10 := (hS.cell (World.block_lt_of_cell? _ _ e10)).trans e10
    go_simp
    with_reducible rfl
  rotate_left
  · simp only [Act.put, List.setIfInBounds_toArray, List.set_cons_zero, List.set_cons_succ, i64_w, i32_w]
    rfl
  refine pure_ (i := 6) (N := some 20) (v := ?_) (a' := ?_) #[true, true, true, true, true, true, true, false, false, false, false, false, false, false, false, false, false, false, false, false] rfl rfl (any_of HT_.out (by kernel_rfl)) (fun _ _ _ h => h) (Or.inl ⟨by rfl, ?_⟩) ?_ ?_
  rotate_left
  · intro w'
    go_simp
    with_reducible rfl
  rotate_left
  · simp only [Act.put, List.setIfInBounds_toArray, List.set_cons_zero, List.set_cons_succ, i64_w, i32_w]
    rfl
  refine pure_ (i := 7) (N := some 21) (v := ?_) (a' := ?_) #[true, true, true, true, true, true, true, true, false, false, false, false, false, false, false, false, false, false, false, false] rfl rfl (any_of HT_.out (by kernel_rfl)) (fun _ _ _ h => h) (Or.inl ⟨by rfl, ?_⟩) ?_ ?_
  rotate_left
  · intro w'
    go_simp
    with_reducible rfl
  rotate_left
  · simp only [Act.put, List.setIfInBounds_toArray, List.set_cons_zero, List.set_cons_succ, i64_w, i32_w]
    rfl
  refine pure_ (i := 8) (N := some 22) (v := ?_) (a' := ?_) #[true, true, true, true, true, true, true, true, true, false, false, false, false, false, false, false, false, false, false, false] rfl rfl (any_of HT_.out (by kernel_rfl)) (fun _ _ _ h => h) (Or.inl ⟨by rfl, ?_⟩) ?_ ?_
  rotate_left
  · intro w'
    go_simp
    with_reducible rfl
  rotate_left
  · simp only [Act.put, List.setIfInBounds_toArray, List.set_cons_zero, List.set_cons_succ, i64_w, i32_w]
    rfl
  refine pure_ (i := 9) (N := some 23) (v := ?_) (a' := ?_) #[true, true, true, true, true, true, true, true, true, true, false, false, false, false, false, false, false, false, false, false] rfl rfl (any_of HT_.out (by kernel_rfl)) (fun _ _ _ h => h) (Or.inl ⟨by rfl, ?_⟩) ?_ ?_
  rotate_left
  · intro w'
    go_simp
    with_reducible rfl
  rotate_left
  · simp only [Act.put, List.setIfInBounds_toArray, List.set_cons_zero, List.set_cons_succ, i64_w, i32_w]
    rfl
  refine pure_ (i := 10) (N := some 24) (v := ?_) (a' := ?_) #[true, true, true, true, true, true, true, true, true, true, true, false, false, false, false, false, false, false, false, false] rfl rfl (any_of HT_.out (by kernel_rfl)) (fun _ _ _ h => h) (Or.inl ⟨by rfl, ?_⟩) ?_ ?_
  rotate_left
  · intro w'
    go_simp
    with_reducible rfl
  rotate_left
  · simp only [Act.put, List.setIfInBounds_toArray, List.set_cons_zero, List.set_cons_succ, i64_w, i32_w]
    rfl
  refine take_ (i := 11) (N := some 25) (v := ?_) (a' := ?_) #[true, true, true, true, true, true, true, true, true, true, true, true, false, false, false, false, false, false, false, false] rfl rfl (take_ofW HT_.out HW_.out (by kernel_rfl)) (fun _ _ _ h => h) (Or.inl ⟨by rfl, ?_⟩) hHeld ?_ ?_
  rotate_left
  · intro w' hS
    replace e9 := (hS.cell (World.block_lt_of_cell? _ _ e9)).trans e9
    replace e10 := (hS.cell (World.block_lt_of_cell? _ _ e10)).trans e10
    go_simp
    with_reducible rfl
  rotate_left
  · simp only [Act.put, List.setIfInBounds_toArray, List.set_cons_zero, List.set_cons_succ, i64_w, i32_w]
    rfl
  refine pure_ (i := 12) (N := some 26) (v := ?_) (a' := ?_) #[true, true, true, true, true, true, true, true, true, true, true, true, true, false, false, false, false, false, false, false] rfl rfl (any_of HT_.out (by kernel_rfl)) (fun _ _ _ h => h) (Or.inl ⟨by rfl, ?_⟩) ?_ ?_
  rotate_left
  · intro w'
    go_simp
    with_reducible rfl
  rotate_left
  · simp only [Act.put, List.setIfInBounds_toArray, List.set_cons_zero, List.set_cons_succ, i64_w, i32_w]
    rfl
  refine pure_ (i := 13) (N := some 27) (v := ?_) (a' := ?_) #[true, true, true, true, true, true, true, true, true, true, true, true, true, true, false, false, false, false, false, false] rfl rfl (any_of HT_.out (by kernel_rfl)) (fun _ _ _ h => h) (Or.inl ⟨by rfl, ?_⟩) ?_ ?_
  rotate_left
  · intro w'
    go_simp
    with_reducible rfl
  rotate_left
  · simp only [Act.put, List.setIfInBounds_toArray, List.set_cons_zero, List.set_cons_succ, i64_w, i32_w]
    rfl
  refine pure_ (i := 14) (N := some 28) (v := ?_) (a' := ?_) #[true, true, true, true, true, true, true, true, true, true, true, true, true, true, true, false, false, false, false, false] rfl rfl (any_of HT_.out (by kernel_rfl)) (fun _ _ _ h => h) (Or.inl ⟨by rfl, ?_⟩) ?_ ?_
  rotate_left
  · intro w'
    go_simp
    with_reducible rfl
  rotate_left
  · simp only [Act.put, List.setIfInBounds_toArray, List.set_cons_zero, List.set_cons_succ, i64_w, i32_w]
    rfl
  refine pure_ (i := 15) (N := some 29) (v := ?_) (a' := ?_) #[true, true, true, true, true, true, true, true, true, true, true, true, true, true, true, true, false, false, false, false] rfl rfl (any_of HT_.out (by kernel_rfl)) (fun _ _ _ h => h) (Or.inl ⟨by rfl, ?_⟩) ?_ ?_
  rotate_left
  · intro w'
    go_simp
    with_reducible rfl
  rotate_left
  · simp only [Act.put, List.setIfInBounds_toArray, List.set_cons_zero, List.set_cons_succ, i64_w, i32_w]
    rfl
  refine last_ (i := 16) (N := none) #[true, true, true, true, true, true, true, true, true, true, true, true, true, true, true, true, true, false, false, false] rfl rfl (one_of HT_.out (by kernel_rfl)) (by decide) (fun K hK => ?_)
  rw [if_pos (by rfl)]
  go_simp
  refine hK.out _ _ ?_
  clear hK K
  refine pure_ (i := 17) (N := some 30) (v := ?_) (a' := ?_) #[true, true, true, true, true, true, true, true, true, true, true, true, true, true, true, true, true, true, false, false] rfl rfl (any_of HT_.out (by kernel_rfl)) (fun _ _ _ h => h) (Or.inl ⟨by rfl, ?_⟩) ?_ ?_
  rotate_left
  · intro w'
    go_simp
    with_reducible rfl
  rotate_left
  · simp only [Act.put, List.setIfInBounds_toArray, List.set_cons_zero, List.set_cons_succ, i64_w, i32_w]
    rfl
  refine pure_ (i := 18) (N := some 31) (v := ?_) (a' := ?_) #[true, true, true, true, true, true, true, true, true, true, true, true, true, true, true, true, true, true, true, false] rfl rfl (any_of HT_.out (by kernel_rfl)) (fun _ _ _ h => h) (Or.inl ⟨by rfl, ?_⟩) ?_ ?_
  rotate_left
  · intro w'
    go_simp
    with_reducible rfl
  rotate_left
  · simp only [Act.put, List.setIfInBounds_toArray, List.set_cons_zero, List.set_cons_succ, i64_w, i32_w]
    rfl
  refine last_ (i := 19) (N := none) #[true, true, true, true, true, true, true, true, true, true, true, true, true, true, true, true, true, true, true, true] rfl rfl (one_of HT_.out (by kernel_rfl)) (by decide) (fun K hK => ?_)
  rw [if_pos (by rfl)]
  go_simp
  refine hK.out _ _ ?_
  clear hK K
  refine done_ (done_of HT_.out (by kernel_rfl)) ?_
  go_wp2_with fail
  go_returns
  refine ⟨by rfl, ?_, ?_, ?_⟩
  · rw [EO.out]
    with_reducible exact own_shift HO2.out j hj _ _
  · exact (HB2.out.setCell hbr _).setCell hbr _
  · intro i hi hir
    rw [Below.heap_setCell _ _ _ _ hir, Below.heap_setCell _ _ _ _ hir]
    exact HB3.out.block i hi
end Go.Proofs.Ytdadnapfecmmdaa.P
