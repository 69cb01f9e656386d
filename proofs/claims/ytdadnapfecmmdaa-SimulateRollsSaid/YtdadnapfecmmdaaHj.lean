/- The walk of the law SimulateRolls. -/
import Derived.Test.YtdadnapfecmmdaaHk
import Derived.Test.YtdadnapfecmmdaaPF11
namespace Go.Proofs.Ytdadnapfecmmdaa.P
set_option linter.unusedVariables false
set_option linter.unusedSimpArgs false
open Go.RowKit Go.Proofs.YtdadnapfecmmdaaW.PrintWords Go.Proofs.YtdadnapfecmmdaaW.PrintLast Go.Proofs.YtdadnapfecmmdaaW.PrintMore
open Go.Proofs.Ytdadnapfecmmdaa.Hm
def seedC (s : Int) : Cfg := ⟨s, [], [], [], [], 0, 0, 0, 0, 0, 0, 0⟩
def noneAt : CfgAt := ⟨none, 0, none, 0, none, 0, none, 0⟩
theorem seedR (s : Int) (w : World) : CfgR w noneAt (seedC s) := ⟨Kd.C_nil _ _, Nat.le_refl _, Kd.C_nil _ _, Nat.le_refl _, Kd.C_nil _ _, Nat.le_refl _, Kd.C_nil _ _, Nat.le_refl _⟩
theorem lawroll_some (c : Cfg) (a b d : Int) : sleuthlaw55_roll.f c.seed c.sv c.off c.ch c.fl c.sfrom c.sto c.per c.delay c.chunk c.loss c.rep a b d = some (rollV c.seed a b d) := by
  unfold sleuthlaw55_roll.f
  simp only [mix_some, Option.bind_some]
  unfold rollV
  with_reducible rfl
theorem lawroll_calls (c : Cfg) (p : CfgAt) (a b d : Int) (w : World) (hR : CfgR w p c) : Calls Try.prog 11 #[c.val p, .int .i64 a, .int .i64 b, .int .i64 d] w fun e w' => e = .returned (.int .i64 (rollV c.seed a b d)) ∧ Below w.heap.size w w' :=
  sleuthlaw55_roll.calls _ _ _ _ _ _ _ _ _ _ _ _ _ _ _ _ _ _ _ _ _ _ _ _ w hR.r1 hR.l1 hR.r2 hR.l2 hR.r3 hR.l3 hR.r4 hR.l4 (lawroll_some c a b d)
def rollsT.T2 : Bool × List (List Nat × List Nat) := (true, [([], []), ([0, 0], [0]), ([1], [1]), ([1], [1]), ([1], [1]), ([4, 1], [1, 4]), ([1], [1]), ([6, 1], [1, 6]), ([2, 3, 5, 7, 1, 1], [1, 2, 3, 5, 7]), ([1], [1]), ([1], [1]), ([1], [1]), ([11, 1], [1, 11]), ([1], [1]), ([13, 1], [1, 13]), ([9, 10, 12, 14, 8, 1], [1, 9, 10, 12, 14]), ([8, 15, 1], [1, 8, 15]), ([1, 16], [1, 16]), ([17, 15, 0, 1, 2, 3, 4, 5, 6, 7, 8, 9, 10, 11, 12, 13, 14, 15, 16, 17], [17])])
def rollsT.B2 : List Nat := [0, 1, 3, 3, 3, 19, 3, 67, 255, 3, 3, 3, 2051, 3, 8195, 32767, 65535, 131071, 262143]
theorem rollsT.tab2 : rtab .any (opsOf Try.f3 2) = rollsT.T2 := by kernel_rfl
theorem rollsT.bits2 : waitsOk rollsT.T2.2 rollsT.B2 = true := by kernel_rfl
set_option maxHeartbeats 8000000 in
set_option maxRecDepth 100000 in
theorem rolls_calls (s a d0 d1 : Int) (w : World) (hs0 : 0 ≤ s) (hs1 : s ≤ 4294967295) : Calls Try.prog 3 #[.int .u32 s, .int .i64 a, .agg #[.int .i64 d0, .int .i64 d1]] w fun e w' => e = .returned (.bool true) ∧ Below w.heap.size w w' := by
  have s1 : IntKind.i64.wrap s = s := IntWalk.i64_in _ (by omega)
  go_enter Try.func3, Try.ntmps3
  go_wp2_with fail
  obtain ⟨k0, k1, k2⟩ := two_blocks w (.cells #[.int .i64 d0, .int .i64 d1] 23) (.cells ((seedC s).cells noneAt) 31)
  have kb : Below w.heap.size w ((w.alloc (.cells #[.int .i64 d0, .int .i64 d1] 23)).alloc (.cells ((seedC s).cells noneAt) 31)) := below_alloc (below_alloc (Below.refl _ _) _) _
  unfold Cfg.cells seedC noneAt at k0 k1 k2 kb
  dsimp only [List.length_nil] at k0 k1 k2 kb
  generalize (w.alloc _).alloc _ = W at k0 k1 k2 kb ⊢
  have q0 : W.cell? ⟨w.heap.size, 0, none⟩ = some (.int .i64 d0) := (blk_cell k0 0).trans rfl
  have q1 : W.cell? ⟨w.heap.size, 1, none⟩ = some (.int .i64 d1) := (blk_cell k0 1).trans rfl
  have c0 : W.cell? ⟨w.heap.size + 1, 0, none⟩ = some (.int .i64 s) := (blk_cell k1 0).trans rfl
  have c1 : W.cell? ⟨w.heap.size + 1, 1, none⟩ = some (.slice none 0 0) := (blk_cell k1 1).trans rfl
  have c2 : W.cell? ⟨w.heap.size + 1, 2, none⟩ = some (.slice none 0 0) := (blk_cell k1 2).trans rfl
  have c3 : W.cell? ⟨w.heap.size + 1, 3, none⟩ = some (.slice none 0 0) := (blk_cell k1 3).trans rfl
  have c4 : W.cell? ⟨w.heap.size + 1, 4, none⟩ = some (.slice none 0 0) := (blk_cell k1 4).trans rfl
  have c5 : W.cell? ⟨w.heap.size + 1, 5, none⟩ = some (.int .i64 0) := (blk_cell k1 5).trans rfl
  have c6 : W.cell? ⟨w.heap.size + 1, 6, none⟩ = some (.int .i64 0) := (blk_cell k1 6).trans rfl
  have c7 : W.cell? ⟨w.heap.size + 1, 7, none⟩ = some (.int .i64 0) := (blk_cell k1 7).trans rfl
  have c8 : W.cell? ⟨w.heap.size + 1, 8, none⟩ = some (.int .i64 0) := (blk_cell k1 8).trans rfl
  have c9 : W.cell? ⟨w.heap.size + 1, 9, none⟩ = some (.int .i64 0) := (blk_cell k1 9).trans rfl
  have c10 : W.cell? ⟨w.heap.size + 1, 10, none⟩ = some (.int .i64 0) := (blk_cell k1 10).trans rfl
  have c11 : W.cell? ⟨w.heap.size + 1, 11, none⟩ = some (.int .i64 0) := (blk_cell k1 11).trans rfl
  have HB := Aside0.mk kb
  clear k0 k1 k2 kb
  refine start_ (n := 19) (S := fun w' => Below W.heap.size W w') (ds := []) #[false, false, false, false, false, false, false, false, false, false, false, false, false, false, false, false, false, false, false] (by kernel_rfl) rfl rfl (Below.refl _ _).drew (fun hHeld => ?_)
  refine with_tabW rollsT.tab2 rollsT.bits2 (fun HT_ HW_ => ?_)
  generalize W.drew = wd at hHeld ⊢
  refine one_ (i := 0) (N := some 11) #[true, false, false, false, false, false, false, false, false, false, false, false, false, false, false, false, false, false, false] rfl rfl (one_of HT_.out (by kernel_rfl)) (by decide) (fun K hK => ?_)
  refine goes_ Try.func9 (by kernel_rfl) rfl #[] (by rfl) rfl rfl (by (try simp only [List.map_toArray, List.map_cons, List.map_nil]); first | done | rfl) ?_
  with_reducible refine (known_calls _).mono ?_
  rintro e wx ⟨rfl, hb⟩
  refine ⟨_, rfl, ?_⟩
  replace hHeld := below_step hHeld hb
  clear hb
  refine hK.out _ _ hHeld (fun hHeld => ?_)
  clear hK K
  refine norm_ (a' := ?_) ?_ ?_
  rotate_left
  · show Act.put _ (some 11) _ = _
    simp only [Act.put, List.setIfInBounds_toArray, List.set_cons_zero, List.set_cons_succ, i64_w, i32_w]
    rfl
  refine pure_ (i := 1) (N := some 12) (v := ?_) (a' := ?_) #[true, true, false, false, false, false, false, false, false, false, false, false, false, false, false, false, false, false, false] rfl rfl (any_of HT_.out (by kernel_rfl)) (fun _ _ _ h => h) (Or.inl ⟨by rfl, ?_⟩) ?_ ?_
  rotate_left
  · intro w'
    go_simp
    with_reducible rfl
  rotate_left
  · simp only [Act.put, List.setIfInBounds_toArray, List.set_cons_zero, List.set_cons_succ, i64_w, i32_w]
    rfl
  refine take_ (i := 2) (N := some 13) (v := ?_) (a' := ?_) #[true, true, true, false, false, false, false, false, false, false, false, false, false, false, false, false, false, false, false] rfl rfl (take_ofW HT_.out HW_.out (by kernel_rfl)) (fun _ _ _ h => h) (Or.inl ⟨by rfl, ?_⟩) hHeld ?_ ?_
  rotate_left
  · intro w' hS
    replace c0 := (hS.cell (World.block_lt_of_cell? _ _ c0)).trans c0
    replace c1 := (hS.cell (World.block_lt_of_cell? _ _ c1)).trans c1
    replace c2 := (hS.cell (World.block_lt_of_cell? _ _ c2)).trans c2
    replace c3 := (hS.cell (World.block_lt_of_cell? _ _ c3)).trans c3
    replace c4 := (hS.cell (World.block_lt_of_cell? _ _ c4)).trans c4
    replace c5 := (hS.cell (World.block_lt_of_cell? _ _ c5)).trans c5
    replace c6 := (hS.cell (World.block_lt_of_cell? _ _ c6)).trans c6
    replace c7 := (hS.cell (World.block_lt_of_cell? _ _ c7)).trans c7
    replace c8 := (hS.cell (World.block_lt_of_cell? _ _ c8)).trans c8
    replace c9 := (hS.cell (World.block_lt_of_cell? _ _ c9)).trans c9
    replace c10 := (hS.cell (World.block_lt_of_cell? _ _ c10)).trans c10
    replace c11 := (hS.cell (World.block_lt_of_cell? _ _ c11)).trans c11
    go_simp
    with_reducible rfl
  rotate_left
  · simp only [Act.put, List.setIfInBounds_toArray, List.set_cons_zero, List.set_cons_succ, i64_w, i32_w]
    rfl
  refine pure_ (i := 3) (N := some 14) (v := ?_) (a' := ?_) #[true, true, true, true, false, false, false, false, false, false, false, false, false, false, false, false, false, false, false] rfl rfl (any_of HT_.out (by kernel_rfl)) (fun _ _ _ h => h) (Or.inl ⟨by rfl, ?_⟩) ?_ ?_
  rotate_left
  · intro w'
    go_simp
    with_reducible rfl
  rotate_left
  · simp only [Act.put, List.setIfInBounds_toArray, List.set_cons_zero, List.set_cons_succ, i64_w, i32_w]
    rfl
  refine pure_ (i := 4) (N := some 15) (v := ?_) (a' := ?_) #[true, true, true, true, true, false, false, false, false, false, false, false, false, false, false, false, false, false, false] rfl rfl (any_of HT_.out (by kernel_rfl)) (fun _ _ _ h => h) (Or.inl ⟨by rfl, ?_⟩) ?_ ?_
  rotate_left
  · intro w'
    go_simp
    with_reducible rfl
  rotate_left
  · simp only [Act.put, List.setIfInBounds_toArray, List.set_cons_zero, List.set_cons_succ, i64_w, i32_w]
    rfl
  refine take_ (i := 5) (N := some 16) (v := ?_) (a' := ?_) #[true, true, true, true, true, true, false, false, false, false, false, false, false, false, false, false, false, false, false] rfl rfl (take_ofW HT_.out HW_.out (by kernel_rfl)) (fun _ _ _ h => h) (Or.inl ⟨by rfl, ?_⟩) hHeld ?_ ?_
  rotate_left
  · intro w' hS
    replace q0 := (hS.cell (World.block_lt_of_cell? _ _ q0)).trans q0
    go_simp
    with_reducible rfl
  rotate_left
  · simp only [Act.put, List.setIfInBounds_toArray, List.set_cons_zero, List.set_cons_succ, i64_w, i32_w]
    rfl
  refine pure_ (i := 6) (N := some 17) (v := ?_) (a' := ?_) #[true, true, true, true, true, true, true, false, false, false, false, false, false, false, false, false, false, false, false] rfl rfl (any_of HT_.out (by kernel_rfl)) (fun _ _ _ h => h) (Or.inl ⟨by rfl, ?_⟩) ?_ ?_
  rotate_left
  · intro w'
    go_simp
    with_reducible rfl
  rotate_left
  · simp only [Act.put, List.setIfInBounds_toArray, List.set_cons_zero, List.set_cons_succ, i64_w, i32_w]
    rfl
  refine take_ (i := 7) (N := some 18) (v := ?_) (a' := ?_) #[true, true, true, true, true, true, true, true, false, false, false, false, false, false, false, false, false, false, false] rfl rfl (take_ofW HT_.out HW_.out (by kernel_rfl)) (fun _ _ _ h => h) (Or.inl ⟨by rfl, ?_⟩) hHeld ?_ ?_
  rotate_left
  · intro w' hS
    replace q1 := (hS.cell (World.block_lt_of_cell? _ _ q1)).trans q1
    go_simp
    with_reducible rfl
  rotate_left
  · simp only [Act.put, List.setIfInBounds_toArray, List.set_cons_zero, List.set_cons_succ, i64_w, i32_w]
    rfl
  refine take_ (i := 9) (N := some 20) (v := ?_) (a' := ?_) #[true, true, true, true, true, true, true, true, false, true, false, false, false, false, false, false, false, false, false] rfl rfl (take_ofW HT_.out HW_.out (by kernel_rfl)) (fun _ _ _ h => h) (Or.inl ⟨by rfl, ?_⟩) hHeld ?_ ?_
  rotate_left
  · intro w' hS
    replace c0 := (hS.cell (World.block_lt_of_cell? _ _ c0)).trans c0
    replace c1 := (hS.cell (World.block_lt_of_cell? _ _ c1)).trans c1
    replace c2 := (hS.cell (World.block_lt_of_cell? _ _ c2)).trans c2
    replace c3 := (hS.cell (World.block_lt_of_cell? _ _ c3)).trans c3
    replace c4 := (hS.cell (World.block_lt_of_cell? _ _ c4)).trans c4
    replace c5 := (hS.cell (World.block_lt_of_cell? _ _ c5)).trans c5
    replace c6 := (hS.cell (World.block_lt_of_cell? _ _ c6)).trans c6
    replace c7 := (hS.cell (World.block_lt_of_cell? _ _ c7)).trans c7
    replace c8 := (hS.cell (World.block_lt_of_cell? _ _ c8)).trans c8
    replace c9 := (hS.cell (World.block_lt_of_cell? _ _ c9)).trans c9
    replace c10 := (hS.cell (World.block_lt_of_cell? _ _ c10)).trans c10
    replace c11 := (hS.cell (World.block_lt_of_cell? _ _ c11)).trans c11
    go_simp
    with_reducible rfl
  rotate_left
  · simp only [Act.put, List.setIfInBounds_toArray, List.set_cons_zero, List.set_cons_succ, i64_w, i32_w]
    rfl
  refine pure_ (i := 10) (N := some 21) (v := ?_) (a' := ?_) #[true, true, true, true, true, true, true, true, false, true, true, false, false, false, false, false, false, false, false] rfl rfl (any_of HT_.out (by kernel_rfl)) (fun _ _ _ h => h) (Or.inl ⟨by rfl, ?_⟩) ?_ ?_
  rotate_left
  · intro w'
    go_simp
    with_reducible rfl
  rotate_left
  · simp only [Act.put, List.setIfInBounds_toArray, List.set_cons_zero, List.set_cons_succ, i64_w, i32_w]
    rfl
  refine pure_ (i := 11) (N := some 22) (v := ?_) (a' := ?_) #[true, true, true, true, true, true, true, true, false, true, true, true, false, false, false, false, false, false, false] rfl rfl (any_of HT_.out (by kernel_rfl)) (fun _ _ _ h => h) (Or.inl ⟨by rfl, ?_⟩) ?_ ?_
  rotate_left
  · intro w'
    go_simp
    with_reducible rfl
  rotate_left
  · simp only [Act.put, List.setIfInBounds_toArray, List.set_cons_zero, List.set_cons_succ, i64_w, i32_w]
    rfl
  refine take_ (i := 12) (N := some 23) (v := ?_) (a' := ?_) #[true, true, true, true, true, true, true, true, false, true, true, true, true, false, false, false, false, false, false] rfl rfl (take_ofW HT_.out HW_.out (by kernel_rfl)) (fun _ _ _ h => h) (Or.inl ⟨by rfl, ?_⟩) hHeld ?_ ?_
  rotate_left
  · intro w' hS
    replace q0 := (hS.cell (World.block_lt_of_cell? _ _ q0)).trans q0
    go_simp
    with_reducible rfl
  rotate_left
  · simp only [Act.put, List.setIfInBounds_toArray, List.set_cons_zero, List.set_cons_succ, i64_w, i32_w]
    rfl
  refine pure_ (i := 13) (N := some 24) (v := ?_) (a' := ?_) #[true, true, true, true, true, true, true, true, false, true, true, true, true, true, false, false, false, false, false] rfl rfl (any_of HT_.out (by kernel_rfl)) (fun _ _ _ h => h) (Or.inl ⟨by rfl, ?_⟩) ?_ ?_
  rotate_left
  · intro w'
    go_simp
    with_reducible rfl
  rotate_left
  · simp only [Act.put, List.setIfInBounds_toArray, List.set_cons_zero, List.set_cons_succ, i64_w, i32_w]
    rfl
  refine take_ (i := 14) (N := some 25) (v := ?_) (a' := ?_) #[true, true, true, true, true, true, true, true, false, true, true, true, true, true, true, false, false, false, false] rfl rfl (take_ofW HT_.out HW_.out (by kernel_rfl)) (fun _ _ _ h => h) (Or.inl ⟨by rfl, ?_⟩) hHeld ?_ ?_
  rotate_left
  · intro w' hS
    replace q1 := (hS.cell (World.block_lt_of_cell? _ _ q1)).trans q1
    go_simp
    with_reducible rfl
  rotate_left
  · simp only [Act.put, List.setIfInBounds_toArray, List.set_cons_zero, List.set_cons_succ, i64_w, i32_w]
    rfl
  refine one_ (i := 8) (N := some 19) #[true, true, true, true, true, true, true, true, true, true, true, true, true, true, true, false, false, false, false] rfl rfl (one_of HT_.out (by kernel_rfl)) (by decide) (fun K hK => ?_)
  refine goes_ Try.func10 (by kernel_rfl) rfl #[(seedC s).val noneAt, .int .i64 a, .int .i64 d0, .int .i64 d1] (by rfl) rfl rfl (by (try simp only [List.map_toArray, List.map_cons, List.map_nil]); first | done | rfl) ?_
  with_reducible refine (roll_calls (seedC s) noneAt a d0 d1 _ (seedR s _)).mono ?_
  rintro e wx ⟨rfl, hb⟩
  refine ⟨_, rfl, ?_⟩
  replace hHeld := below_step hHeld hb
  clear hb
  refine hK.out _ _ hHeld (fun hHeld => ?_)
  clear hK K
  refine norm_ (a' := ?_) ?_ ?_
  rotate_left
  · show Act.put _ (some 19) _ = _
    simp only [Act.put, List.setIfInBounds_toArray, List.set_cons_zero, List.set_cons_succ, i64_w, i32_w]
    rfl
  refine one_ (i := 15) (N := some 26) #[true, true, true, true, true, true, true, true, true, true, true, true, true, true, true, true, false, false, false] rfl rfl (one_of HT_.out (by kernel_rfl)) (by decide) (fun K hK => ?_)
  refine goes_ Try.func11 (by kernel_rfl) rfl #[(seedC s).val noneAt, .int .i64 a, .int .i64 d0, .int .i64 d1] (by rfl) rfl rfl (by (try simp only [List.map_toArray, List.map_cons, List.map_nil]); first | done | rfl) ?_
  with_reducible refine (lawroll_calls (seedC s) noneAt a d0 d1 _ (seedR s _)).mono ?_
  rintro e wx ⟨rfl, hb⟩
  refine ⟨_, rfl, ?_⟩
  replace hHeld := below_step hHeld hb
  clear hb
  refine hK.out _ _ hHeld (fun hHeld => ?_)
  clear hK K
  refine norm_ (a' := ?_) ?_ ?_
  rotate_left
  · show Act.put _ (some 26) _ = _
    simp only [Act.put, List.setIfInBounds_toArray, List.set_cons_zero, List.set_cons_succ, i64_w, i32_w]
    rfl
  refine pure_ (i := 16) (N := some 27) (v := ?_) (a' := ?_) #[true, true, true, true, true, true, true, true, true, true, true, true, true, true, true, true, true, false, false] rfl rfl (any_of HT_.out (by kernel_rfl)) (fun _ _ _ h => h) (Or.inl ⟨by rfl, ?_⟩) ?_ ?_
  rotate_left
  · intro w'
    go_simp
    with_reducible rfl
  rotate_left
  · simp only [Act.put, List.setIfInBounds_toArray, List.set_cons_zero, List.set_cons_succ, i64_w, i32_w]
    rfl
  refine pure_ (i := 17) (N := some 28) (v := ?_) (a' := ?_) #[true, true, true, true, true, true, true, true, true, true, true, true, true, true, true, true, true, true, false] rfl rfl (any_of HT_.out (by kernel_rfl)) (fun _ _ _ h => h) (Or.inl ⟨by rfl, ?_⟩) ?_ ?_
  rotate_left
  · intro w'
    go_simp
    with_reducible rfl
  rotate_left
  · simp only [Act.put, List.setIfInBounds_toArray, List.set_cons_zero, List.set_cons_succ, i64_w, i32_w]
    rfl
  refine pure_ (i := 18) (N := some 6) (v := ?_) (a' := ?_) #[true, true, true, true, true, true, true, true, true, true, true, true, true, true, true, true, true, true, true] rfl rfl (any_of HT_.out (by kernel_rfl)) (fun _ _ _ h => h) (Or.inl ⟨by rfl, ?_⟩) ?_ ?_
  rotate_left
  · intro w'
    go_simp
    with_reducible rfl
  rotate_left
  · simp only [Act.put, List.setIfInBounds_toArray, List.set_cons_zero, List.set_cons_succ, i64_w, i32_w]
    rfl
  refine done_ (done_of HT_.out (by kernel_rfl)) ?_
  go_wp2_with fail
  go_ret
  exact ⟨by rfl, below_step HB.out hHeld⟩
end Go.Proofs.Ytdadnapfecmmdaa.P
