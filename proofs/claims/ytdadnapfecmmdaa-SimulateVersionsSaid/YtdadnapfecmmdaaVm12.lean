/- Own texts of a proof about layer 55's simulate (merged): Jn, Hv, Hx, Hy. -/
import Derived.Test.YtdadnapfecmmdaaVm11
import Derived.Test.YtdadnapfecmmdaaVm2
import Derived.Test.YtdadnapfecmmdaaVm8
import Derived.Test.YtdadnapfecmmdaaVm9
import Derived.Deep.DeepMust
namespace Go.Proofs.Ytdadnapfecmmdaa.P
set_option linter.unusedVariables false
set_option linter.unusedSimpArgs false
open Go.RowKit Go.Proofs.YtdadnapfecmmdaaW.PrintWords Go.Proofs.YtdadnapfecmmdaaW.PrintLast Go.Proofs.YtdadnapfecmmdaaW.PrintMore
open Go.Proofs.Ytdadnapfecmmdaa.Hm
def joinTo (cl : List S100) (l : List S56) (i : Nat) : List Int := (l.take i).map fun s => (actV cl s.f6 (s.f0 / 1048576)).1
theorem joinTo_succ (cl : List S100) (l : List S56) (i : Nat) (h : i < l.length) : joinTo cl l (i + 1) = joinTo cl l i ++ [(actV cl (rd_T56 l (i : Int)).f6 ((rd_T56 l (i : Int)).f0 / 1048576)).1] := by
  have e : rd_T56 l (i : Int) = l[i] := by unfold rd_T56; simp [List.getD_eq_getElem?_getD, h]
  unfold joinTo
  rw [List.take_succ_eq_append_getElem h, List.map_append, e]
  rfl
theorem joinTo_len (cl : List S100) (l : List S56) (i : Nat) (h : i ≤ l.length) : (joinTo cl l i).length = i := by
  unfold joinTo; simp; omega
def joinT.T5 : Bool × List (List Nat × List Nat) := (true, [([], []), ([], []), ([1], [1]), ([], []), ([3], [3]), ([4], [4]), ([0, 2, 5, 5], [0, 2, 5]), ([6], [6]), ([7], [7]), ([7], [7]), ([], []), ([10, 8, 6, 0, 1, 2, 3, 4, 5, 6, 7, 8, 10], [8, 10]), ([9, 11, 0, 1, 2, 3, 4, 5, 6, 7, 8, 9, 10, 11], [9])])
def joinT.B5 : List Nat := [0, 0, 2, 0, 8, 24, 63, 127, 255, 255, 0, 1535, 4095]
theorem joinT.tab5 : rtab .any (opsOf Try.f14 5) = joinT.T5 := by kernel_rfl
theorem joinT.bits5 : waitsOk joinT.T5.2 joinT.B5 = true := by kernel_rfl
def strT.T5 : Bool × List (List Nat × List Nat) := (true, [([], []), ([], []), ([1], [1]), ([], []), ([3], [3]), ([4], [4]), ([0, 2, 5, 5], [0, 2, 5]), ([6], [6]), ([7], [7]), ([7], [7]), ([], []), ([10, 8, 6, 0, 1, 2, 3, 4, 5, 6, 7, 8, 10], [8, 10]), ([9, 11, 0, 1, 2, 3, 4, 5, 6, 7, 8, 9, 10, 11], [9])])
def strT.B5 : List Nat := [0, 0, 2, 0, 8, 24, 63, 127, 255, 255, 0, 1535, 4095]
theorem strT.tab5 : rtab .any (opsOf Try.f15 5) = strT.T5 := by kernel_rfl
theorem strT.bits5 : waitsOk strT.T5.2 strT.B5 = true := by kernel_rfl
set_option maxHeartbeats 8000000 in
set_option maxRecDepth 100000 in
theorem Join_calls (A0 : Option Addr) (c0 : Nat) (cl : List S100) (A1 : Option Addr) (c1 : Nat) (l : List S56) (w : World) (hr0 : Kd.C k100 w A0 cl.length cl) (hc0 : cl.length ≤ c0) (hcl : cl.length ≤ 40) (hr1 : Kd.C k56 w A1 l.length l) (hn : l.length ≤ 1000) :
    Calls Try.prog 14 #[.slice A0 cl.length c0, .slice A1 l.length c1] w fun e w' => ∃ v, e = .returned v ∧ Kd.R (Kd.int .i64) 3 w' w.heap.size (fun _ => True) v (l.map fun s => (actV cl s.f6 (s.f0 / 1048576)).1) ∧ Below w.heap.size w w' := by
  have HR0 := Aside0.mk hr0
  have HR1 := Aside0.mk hr1
  have HN := Aside0.mk hn
  clear hr0 hr1 hn
  go_enter Try.func14, Try.ntmps14
  go_wp2
  go_loopg [5, 12] l.length (fun gg s5 s12 wr => ∃ i : Nat, i ≤ l.length ∧ l.length - i ≤ gg ∧ s12 = .int .i64 (i : Int) ∧ Aside0 (Kd.R (Kd.int .i64) 3 wr w.heap.size (fun _ => True) s5 (joinTo cl l i)) ∧ Aside0 (Below w.heap.size w wr))
  case atStart => exact ⟨0, Nat.zero_le _, by omega, rfl, ⟨Kd.R_nil _ _ _ _ _⟩, ⟨Below.refl _ _⟩⟩
  case round =>
  obtain ⟨i, hi, hgi, rfl, HO, HB⟩ := hrel
  obtain ⟨A3, c3, e3⟩ := Kd.R_slice HO.out
  subst e3
  by_cases hlt : i < l.length
  · have HL := Aside0.mk (joinTo_len cl l i hi)
    obtain ⟨ad, A12, c12, A13, c13, e, h0, h1, h2, h3, h4, h5, h6, h7, h8, h9, h10, h11, h12, h13, -, -, -, -⟩ := at_T56 HR1.out (i : Int) (by omega) (by omega)
    subst e
    simp only [Int.toNat_natCast] at h0 h1 h2 h3 h4 h5 h6 h7 h8 h9 h10 h11 h12 h13
    have HX := Aside0.mk (joinTo_succ cl l i (by omega))
    have HACT := Aside0.mk (fun W (hb : Below w.heap.size w W) => active_calls 100 A0 c0 cl (rd_T56 l (i : Int)).f6 ((rd_T56 l (i : Int)).f0 / 1048576) _ W (Kd.C_below HR0.out hb) hc0 ((act_ok cl hcl (rd_T56 l (i : Int)).f6 ((rd_T56 l (i : Int)).f0 / 1048576)).1 100 (Nat.le_refl _)))
    generalize actV cl (rd_T56 l (i : Int)).f6 ((rd_T56 l (i : Int)).f0 / 1048576) = ac at HACT HX
    generalize rd_T56 l (i : Int) = x at h0 h1 h2 h3 h4 h5 h6 h7 h8 h9 h10 h11 h12 h13 HACT HX
    obtain ⟨x0, x1, x2, x3, x4, x5, x6, x7, x8, x9, x10, x11, x12, x13⟩ := x
    obtain ⟨a0, a1, a2, a3, a4, a5, a6⟩ := ac
    dsimp only at h0 h1 h2 h3 h4 h5 h6 h7 h8 h9 h10 h11 h12 h13 HACT HX
    replace h0 := (HB.out.cell (World.block_lt_of_cell? _ _ h0)).trans h0
    replace h1 := (HB.out.cell (World.block_lt_of_cell? _ _ h1)).trans h1
    replace h2 := (HB.out.cell (World.block_lt_of_cell? _ _ h2)).trans h2
    replace h3 := (HB.out.cell (World.block_lt_of_cell? _ _ h3)).trans h3
    replace h4 := (HB.out.cell (World.block_lt_of_cell? _ _ h4)).trans h4
    replace h5 := (HB.out.cell (World.block_lt_of_cell? _ _ h5)).trans h5
    replace h6 := (HB.out.cell (World.block_lt_of_cell? _ _ h6)).trans h6
    replace h7 := (HB.out.cell (World.block_lt_of_cell? _ _ h7)).trans h7
    replace h8 := (HB.out.cell (World.block_lt_of_cell? _ _ h8)).trans h8
    replace h9 := (HB.out.cell (World.block_lt_of_cell? _ _ h9)).trans h9
    replace h10 := (HB.out.cell (World.block_lt_of_cell? _ _ h10)).trans h10
    replace h11 := (HB.out.cell (World.block_lt_of_cell? _ _ h11)).trans h11
    replace h12 := (HB.out.cell (World.block_lt_of_cell? _ _ h12)).trans h12
    replace h13 := (HB.out.cell (World.block_lt_of_cell? _ _ h13)).trans h13
    have hz1 : (i : Int) < (l.length : Int) := by omega
    go_upto_region 5 with fail
    have hx0 := blk_new wr (.cells #[.int .i64 x0, .int .i64 x1, .int .i64 x2, .int .i64 x3, .int .i64 x4, .int .i64 x5, .string x6, .string x7, .string x8, .int .i64 x9, .int .i64 x10, .bool x11, .slice A12 x12.length c12, .slice A13 x13.length c13] 56)
    have hbx0 : Below wr.heap.size wr (wr.alloc (.cells #[.int .i64 x0, .int .i64 x1, .int .i64 x2, .int .i64 x3, .int .i64 x4, .int .i64 x5, .string x6, .string x7, .string x8, .int .i64 x9, .int .i64 x10, .bool x11, .slice A12 x12.length c12, .slice A13 x13.length c13] 56)) := below_alloc (Below.refl _ _) _
    clear h0 h1 h2 h3 h4 h5 h6 h7 h8 h9 h10 h11 h12 h13
    generalize wr.alloc (.cells #[.int .i64 x0, .int .i64 x1, .int .i64 x2, .int .i64 x3, .int .i64 x4, .int .i64 x5, .string x6, .string x7, .string x8, .int .i64 x9, .int .i64 x10, .bool x11, .slice A12 x12.length c12, .slice A13 x13.length c13] 56) = wx at hx0 hbx0 ⊢
    have HX0 := Aside0.mk hx0
    have HBX := Aside0.mk (below_step HB.out hbx0)
    have HBR := Aside0.mk hbx0
    clear hx0 hbx0
    replace HACT := Aside0.mk (fun W (hb : Below wx.heap.size wx W) => HACT.out W (below_step HBX.out hb))
    go_cut [8, 9] (fun s8 s9 wz => ∃ sb : Nat, s8 = .pointer (some ⟨sb, 0, none⟩) ∧ s9 = .bool a6 ∧ Aside0 (wz.heap[sb]? = some (.cells #[.int .i64 a0, .int .i64 a1, .int .i64 a2, .string a3, .string a4, .string a5] 100 (0, 0))) ∧ Aside0 (wx.heap.size ≤ sb) ∧ Aside0 (Below wx.heap.size wx wz))
    case first =>
      as_aux_lemma =>
        have e0 : wx.cell? ⟨wr.heap.size, 0, none⟩ = some (.int .i64 x0) := (blk_cell HX0.out 0).trans rfl
        have e6 : wx.cell? ⟨wr.heap.size, 6, none⟩ = some (.string x6) := (blk_cell HX0.out 6).trans rfl
        refine start_ (n := 13) (S := fun w' => Below wx.heap.size wx w') (ds := [11]) #[false, false, false, false, false, false, false, false, false, false, false, false, false] (by kernel_rfl) rfl rfl (Below.refl _ _).drew (fun hHeld => ?_)
        refine with_tabW joinT.tab5 joinT.bits5 (fun HT_ HW_ => ?_)
        generalize wx.drew = wd at hHeld ⊢
        refine pure_ (i := 0) (N := some 17) (v := ?_) (a' := ?_) #[true, false, false, false, false, false, false, false, false, false, false, false, false] rfl rfl (any_of HT_.out (by kernel_rfl)) (fun _ _ _ h => h) (Or.inl ⟨by rfl, ?_⟩) ?_ ?_
        rotate_left
        · intro w'
          go_simp
          with_reducible rfl
        rotate_left
        · simp only [Act.put, List.setIfInBounds_toArray, List.set_cons_zero, List.set_cons_succ, i64_w, i32_w]
          rfl
        refine pure_ (i := 1) (N := some 18) (v := ?_) (a' := ?_) #[true, true, false, false, false, false, false, false, false, false, false, false, false] rfl rfl (any_of HT_.out (by kernel_rfl)) (fun _ _ _ h => h) (Or.inl ⟨by rfl, ?_⟩) ?_ ?_
        rotate_left
        · intro w'
          go_simp
          with_reducible rfl
        rotate_left
        · simp only [Act.put, List.setIfInBounds_toArray, List.set_cons_zero, List.set_cons_succ, i64_w, i32_w]
          rfl
        refine take_ (i := 2) (N := some 19) (v := ?_) (a' := ?_) #[true, true, true, false, false, false, false, false, false, false, false, false, false] rfl rfl (take_ofW HT_.out HW_.out (by kernel_rfl)) (fun _ _ _ h => h) (Or.inl ⟨by rfl, ?_⟩) hHeld ?_ ?_
        rotate_left
        · intro w' hS
          replace e6 := (hS.cell (World.block_lt_of_cell? _ _ e6)).trans e6
          go_simp
          with_reducible rfl
        rotate_left
        · simp only [Act.put, List.setIfInBounds_toArray, List.set_cons_zero, List.set_cons_succ, i64_w, i32_w]
          rfl
        refine pure_ (i := 3) (N := some 20) (v := ?_) (a' := ?_) #[true, true, true, true, false, false, false, false, false, false, false, false, false] rfl rfl (any_of HT_.out (by kernel_rfl)) (fun _ _ _ h => h) (Or.inl ⟨by rfl, ?_⟩) ?_ ?_
        rotate_left
        · intro w'
          go_simp
          with_reducible rfl
        rotate_left
        · simp only [Act.put, List.setIfInBounds_toArray, List.set_cons_zero, List.set_cons_succ, i64_w, i32_w]
          rfl
        refine take_ (i := 4) (N := some 21) (v := ?_) (a' := ?_) #[true, true, true, true, true, false, false, false, false, false, false, false, false] rfl rfl (take_ofW HT_.out HW_.out (by kernel_rfl)) (fun _ _ _ h => h) (Or.inl ⟨by rfl, ?_⟩) hHeld ?_ ?_
        rotate_left
        · intro w' hS
          replace e0 := (hS.cell (World.block_lt_of_cell? _ _ e0)).trans e0
          go_simp
          with_reducible rfl
        rotate_left
        · simp only [Act.put, List.setIfInBounds_toArray, List.set_cons_zero, List.set_cons_succ, i64_w, i32_w]
          rfl
        refine join_ (σ := Nat) 2 #[true, true, true, true, true, true, true, true, true, true, true, false, false] (fun s => [(22, .int .i64 (x0 / 1048576)), (23, .tuple #[.agg #[.int .i64 a0, .int .i64 a1, .int .i64 a2, .string a3, .string a4, .string a5], .bool a6]), (8, .pointer (some ⟨s, 0, none⟩)), (16, .tuple #[.agg #[.int .i64 a0, .int .i64 a1, .int .i64 a2, .string a3, .string a4, .string a5], .bool a6]), (24, .agg #[.int .i64 a0, .int .i64 a1, .int .i64 a2, .string a3, .string a4, .string a5]), (25, .bool a6)]) (fun s w' => Below wx.heap.size wx w' ∧ w'.heap[s]? = some (.cells #[.int .i64 0, .int .i64 0, .int .i64 0, .string ⟨#[]⟩, .string ⟨#[]⟩, .string ⟨#[]⟩] 100 (0, 0)) ∧ wx.heap.size ≤ s) ?_ ?_
        rotate_left
        · intro hCont
          refine two_ (i := 5) (j := 10) (Ni := some 22) (Nj := some 8) #[true, true, true, true, true, true, false, false, false, false, false, false, false] #[true, true, true, true, true, false, false, false, false, false, true, false, false] rfl rfl rfl rfl (two_of HT_.out (by kernel_rfl)) (by decide) (by decide) (fun K hK => ?_) (fun K hK => ?_)
          · refine goes_ Try.func18 (by kernel_rfl) rfl #[.int .i64 x0] (by rfl) rfl rfl (by (try simp only [List.map_toArray, List.map_cons, List.map_nil]); first | done | rfl) ?_
            with_reducible refine (span_Slot.calls x0 (x0 / 1048576) _ rfl).mono ?_
            rintro e wn ⟨rfl, ⟨nd, rfl⟩⟩
            refine ⟨_, rfl, ?_⟩
            replace hHeld := pw_below_drewN hHeld nd
            refine hK.out _ _ hHeld (fun hHeld => ?_)
            clear hK K
            refine norm_ (a' := ?_) ?_ ?_
            rotate_left
            · show Act.put _ (some 22) _ = _
              simp only [Act.put, List.setIfInBounds_toArray, List.set_cons_zero, List.set_cons_succ, i64_w, i32_w]
              rfl
            refine two_ (i := 6) (j := 10) (Ni := some 23) (Nj := some 8) #[true, true, true, true, true, true, true, false, false, false, false, false, false] #[true, true, true, true, true, true, false, false, false, false, true, false, false] rfl rfl rfl rfl (two_of HT_.out (by kernel_rfl)) (by decide) (by decide) (fun K hK => ?_) (fun K hK => ?_)
            · refine goes_ Try.func39 (by kernel_rfl) rfl #[.slice A0 cl.length c0, .string x6, .int .i64 (x0 / 1048576)] (by rfl) rfl rfl (by (try simp only [List.map_toArray, List.map_cons, List.map_nil]); first | done | rfl) ?_
              with_reducible refine (HACT.out _ hHeld).mono ?_
              rintro e wn ⟨rfl, hb⟩
              refine ⟨_, rfl, ?_⟩
              replace hHeld := below_step hHeld hb
              clear hb
              refine hK.out _ _ hHeld (fun hHeld => ?_)
              clear hK K
              refine norm_ (a' := ?_) ?_ ?_
              rotate_left
              · show Act.put _ (some 23) _ = _
                simp only [Act.put, List.setIfInBounds_toArray, List.set_cons_zero, List.set_cons_succ, i64_w, i32_w]
                rfl
              refine pure_ (i := 7) (N := some 16) (v := ?_) (a' := ?_) #[true, true, true, true, true, true, true, true, false, false, false, false, false] rfl rfl (any_of HT_.out (by kernel_rfl)) (fun _ _ _ h => h) (Or.inl ⟨by rfl, ?_⟩) ?_ ?_
              rotate_left
              · intro w'
                go_simp
                with_reducible rfl
              rotate_left
              · simp only [Act.put, List.setIfInBounds_toArray, List.set_cons_zero, List.set_cons_succ, i64_w, i32_w]
                rfl
              refine pure_ (i := 8) (N := some 24) (v := ?_) (a' := ?_) #[true, true, true, true, true, true, true, true, true, false, false, false, false] rfl rfl (any_of HT_.out (by kernel_rfl)) (fun _ _ _ h => h) (Or.inl ⟨by rfl, ?_⟩) ?_ ?_
              rotate_left
              · intro w'
                go_simp
                with_reducible rfl
              rotate_left
              · simp only [Act.put, List.setIfInBounds_toArray, List.set_cons_zero, List.set_cons_succ, i64_w, i32_w]
                rfl
              refine pure_ (i := 9) (N := some 25) (v := ?_) (a' := ?_) #[true, true, true, true, true, true, true, true, true, true, false, false, false] rfl rfl (any_of HT_.out (by kernel_rfl)) (fun _ _ _ h => h) (Or.inl ⟨by rfl, ?_⟩) ?_ ?_
              rotate_left
              · intro w'
                go_simp
                with_reducible rfl
              rotate_left
              · simp only [Act.put, List.setIfInBounds_toArray, List.set_cons_zero, List.set_cons_succ, i64_w, i32_w]
                rfl
              refine one_ (i := 10) (N := some 8) #[true, true, true, true, true, true, true, true, true, true, true, false, false] rfl rfl (one_of HT_.out (by kernel_rfl)) (by decide) (fun K hK => ?_)
              refine box_step ?hg (N := 8) ?hd (cs := #[.int .i64 0, .int .i64 0, .int .i64 0, .string ⟨#[]⟩, .string ⟨#[]⟩, .string ⟨#[]⟩]) (t := 100) ?hr ?_; (case hd => rfl); (case hg => rfl); (case hr => first | (go_simp; done) | (go_simp; rfl))
              intro sb hsb ws hbx hb
              have hge : wx.heap.size ≤ sb := by rw [hsb]; exact hHeld.size
              clear hsb
              replace hHeld := below_step hHeld hb
              clear hb
              refine hK.out _ _ hHeld (fun hHeld => ?_)
              clear hK K
              refine norm_ (a' := ?_) ?_ ?_
              rotate_left
              · show Act.put _ (some 8) _ = _
                simp only [Act.put, List.setIfInBounds_toArray, List.set_cons_zero, List.set_cons_succ, i64_w, i32_w]
                rfl
              exact norm_ (by simp only [putAll, Act.put, List.setIfInBounds_toArray, List.set_cons_zero, List.set_cons_succ]) (hCont sb _ ⟨hHeld, hbx, hge⟩)
            · refine box_step ?hg (N := 8) ?hd (cs := #[.int .i64 0, .int .i64 0, .int .i64 0, .string ⟨#[]⟩, .string ⟨#[]⟩, .string ⟨#[]⟩]) (t := 100) ?hr ?_; (case hd => rfl); (case hg => rfl); (case hr => first | (go_simp; done) | (go_simp; rfl))
              intro sb hsb ws hbx hb
              have hge : wx.heap.size ≤ sb := by rw [hsb]; exact hHeld.size
              clear hsb
              replace hHeld := below_step hHeld hb
              clear hb
              refine hK.out _ _ hHeld (fun hHeld => ?_)
              clear hK K
              refine norm_ (a' := ?_) ?_ ?_
              rotate_left
              · show Act.put _ (some 8) _ = _
                simp only [Act.put, List.setIfInBounds_toArray, List.set_cons_zero, List.set_cons_succ, i64_w, i32_w]
                rfl
              refine one_ (i := 6) (N := some 23) #[true, true, true, true, true, true, true, false, false, false, true, false, false] rfl rfl (one_of HT_.out (by kernel_rfl)) (by decide) (fun K hK => ?_)
              refine goes_ Try.func39 (by kernel_rfl) rfl #[.slice A0 cl.length c0, .string x6, .int .i64 (x0 / 1048576)] (by rfl) rfl rfl (by (try simp only [List.map_toArray, List.map_cons, List.map_nil]); first | done | rfl) ?_
              with_reducible refine (HACT.out _ hHeld).mono ?_
              rintro e wn ⟨rfl, hb⟩
              refine ⟨_, rfl, ?_⟩
              replace hbx := blk_below hbx hb
              replace hHeld := below_step hHeld hb
              clear hb
              refine hK.out _ _ hHeld (fun hHeld => ?_)
              clear hK K
              refine norm_ (a' := ?_) ?_ ?_
              rotate_left
              · show Act.put _ (some 23) _ = _
                simp only [Act.put, List.setIfInBounds_toArray, List.set_cons_zero, List.set_cons_succ, i64_w, i32_w]
                rfl
              refine pure_ (i := 7) (N := some 16) (v := ?_) (a' := ?_) #[true, true, true, true, true, true, true, true, false, false, true, false, false] rfl rfl (any_of HT_.out (by kernel_rfl)) (fun _ _ _ h => h) (Or.inl ⟨by rfl, ?_⟩) ?_ ?_
              rotate_left
              · intro w'
                go_simp
                with_reducible rfl
              rotate_left
              · simp only [Act.put, List.setIfInBounds_toArray, List.set_cons_zero, List.set_cons_succ, i64_w, i32_w]
                rfl
              refine pure_ (i := 8) (N := some 24) (v := ?_) (a' := ?_) #[true, true, true, true, true, true, true, true, true, false, true, false, false] rfl rfl (any_of HT_.out (by kernel_rfl)) (fun _ _ _ h => h) (Or.inl ⟨by rfl, ?_⟩) ?_ ?_
              rotate_left
              · intro w'
                go_simp
                with_reducible rfl
              rotate_left
              · simp only [Act.put, List.setIfInBounds_toArray, List.set_cons_zero, List.set_cons_succ, i64_w, i32_w]
                rfl
              refine pure_ (i := 9) (N := some 25) (v := ?_) (a' := ?_) #[true, true, true, true, true, true, true, true, true, true, true, false, false] rfl rfl (any_of HT_.out (by kernel_rfl)) (fun _ _ _ h => h) (Or.inl ⟨by rfl, ?_⟩) ?_ ?_
              rotate_left
              · intro w'
                go_simp
                with_reducible rfl
              rotate_left
              · simp only [Act.put, List.setIfInBounds_toArray, List.set_cons_zero, List.set_cons_succ, i64_w, i32_w]
                rfl
              exact norm_ (by simp only [putAll, Act.put, List.setIfInBounds_toArray, List.set_cons_zero, List.set_cons_succ]) (hCont sb _ ⟨hHeld, hbx, hge⟩)
          · refine box_step ?hg (N := 8) ?hd (cs := #[.int .i64 0, .int .i64 0, .int .i64 0, .string ⟨#[]⟩, .string ⟨#[]⟩, .string ⟨#[]⟩]) (t := 100) ?hr ?_; (case hd => rfl); (case hg => rfl); (case hr => first | (go_simp; done) | (go_simp; rfl))
            intro sb hsb ws hbx hb
            have hge : wx.heap.size ≤ sb := by rw [hsb]; exact hHeld.size
            clear hsb
            replace hHeld := below_step hHeld hb
            clear hb
            refine hK.out _ _ hHeld (fun hHeld => ?_)
            clear hK K
            refine norm_ (a' := ?_) ?_ ?_
            rotate_left
            · show Act.put _ (some 8) _ = _
              simp only [Act.put, List.setIfInBounds_toArray, List.set_cons_zero, List.set_cons_succ, i64_w, i32_w]
              rfl
            refine one_ (i := 5) (N := some 22) #[true, true, true, true, true, true, false, false, false, false, true, false, false] rfl rfl (one_of HT_.out (by kernel_rfl)) (by decide) (fun K hK => ?_)
            refine goes_ Try.func18 (by kernel_rfl) rfl #[.int .i64 x0] (by rfl) rfl rfl (by (try simp only [List.map_toArray, List.map_cons, List.map_nil]); first | done | rfl) ?_
            with_reducible refine (span_Slot.calls x0 (x0 / 1048576) _ rfl).mono ?_
            rintro e wn ⟨rfl, ⟨nd, rfl⟩⟩
            refine ⟨_, rfl, ?_⟩
            replace hbx := blk_drewN hbx nd
            replace hHeld := pw_below_drewN hHeld nd
            refine hK.out _ _ hHeld (fun hHeld => ?_)
            clear hK K
            refine norm_ (a' := ?_) ?_ ?_
            rotate_left
            · show Act.put _ (some 22) _ = _
              simp only [Act.put, List.setIfInBounds_toArray, List.set_cons_zero, List.set_cons_succ, i64_w, i32_w]
              rfl
            refine one_ (i := 6) (N := some 23) #[true, true, true, true, true, true, true, false, false, false, true, false, false] rfl rfl (one_of HT_.out (by kernel_rfl)) (by decide) (fun K hK => ?_)
            refine goes_ Try.func39 (by kernel_rfl) rfl #[.slice A0 cl.length c0, .string x6, .int .i64 (x0 / 1048576)] (by rfl) rfl rfl (by (try simp only [List.map_toArray, List.map_cons, List.map_nil]); first | done | rfl) ?_
            with_reducible refine (HACT.out _ hHeld).mono ?_
            rintro e wn ⟨rfl, hb⟩
            refine ⟨_, rfl, ?_⟩
            replace hbx := blk_below hbx hb
            replace hHeld := below_step hHeld hb
            clear hb
            refine hK.out _ _ hHeld (fun hHeld => ?_)
            clear hK K
            refine norm_ (a' := ?_) ?_ ?_
            rotate_left
            · show Act.put _ (some 23) _ = _
              simp only [Act.put, List.setIfInBounds_toArray, List.set_cons_zero, List.set_cons_succ, i64_w, i32_w]
              rfl
            refine pure_ (i := 7) (N := some 16) (v := ?_) (a' := ?_) #[true, true, true, true, true, true, true, true, false, false, true, false, false] rfl rfl (any_of HT_.out (by kernel_rfl)) (fun _ _ _ h => h) (Or.inl ⟨by rfl, ?_⟩) ?_ ?_
            rotate_left
            · intro w'
              go_simp
              with_reducible rfl
            rotate_left
            · simp only [Act.put, List.setIfInBounds_toArray, List.set_cons_zero, List.set_cons_succ, i64_w, i32_w]
              rfl
            refine pure_ (i := 8) (N := some 24) (v := ?_) (a' := ?_) #[true, true, true, true, true, true, true, true, true, false, true, false, false] rfl rfl (any_of HT_.out (by kernel_rfl)) (fun _ _ _ h => h) (Or.inl ⟨by rfl, ?_⟩) ?_ ?_
            rotate_left
            · intro w'
              go_simp
              with_reducible rfl
            rotate_left
            · simp only [Act.put, List.setIfInBounds_toArray, List.set_cons_zero, List.set_cons_succ, i64_w, i32_w]
              rfl
            refine pure_ (i := 9) (N := some 25) (v := ?_) (a' := ?_) #[true, true, true, true, true, true, true, true, true, true, true, false, false] rfl rfl (any_of HT_.out (by kernel_rfl)) (fun _ _ _ h => h) (Or.inl ⟨by rfl, ?_⟩) ?_ ?_
            rotate_left
            · intro w'
              go_simp
              with_reducible rfl
            rotate_left
            · simp only [Act.put, List.setIfInBounds_toArray, List.set_cons_zero, List.set_cons_succ, i64_w, i32_w]
              rfl
            exact norm_ (by simp only [putAll, Act.put, List.setIfInBounds_toArray, List.set_cons_zero, List.set_cons_succ]) (hCont sb _ ⟨hHeld, hbx, hge⟩)
        rintro sb w5 ⟨hHeld, hbx, hge⟩
        have hK5 := Aside0.mk hbx
        have c0 := (blk_cell hbx 0).trans rfl
        have c1 := (blk_cell hbx 1).trans rfl
        have c2 := (blk_cell hbx 2).trans rfl
        have c3 := (blk_cell hbx 3).trans rfl
        have c4 := (blk_cell hbx 4).trans rfl
        have c5 := (blk_cell hbx 5).trans rfl
        have d0 := blk_frozen hbx 0
        have d1 := blk_frozen hbx 1
        have d2 := blk_frozen hbx 2
        have d3 := blk_frozen hbx 3
        have d4 := blk_frozen hbx 4
        have d5 := blk_frozen hbx 5
        clear hbx
        refine norm_ (a' := ?_) ?_ ?_
        rotate_left
        · simp only [putAll, Act.put, List.setIfInBounds_toArray, List.set_cons_zero, List.set_cons_succ]
          rfl
        refine last_ (i := 11) (N := none) #[true, true, true, true, true, true, true, true, true, true, true, true, false] rfl rfl (one_of HT_.out (by kernel_rfl)) (by decide) (fun K hK => ?_)
        rw [if_pos (by rfl)]
        go_simp
        refine hK.out _ _ ?_
        clear hK K
        refine pure_ (i := 12) (N := some 9) (v := ?_) (a' := ?_) #[true, true, true, true, true, true, true, true, true, true, true, true, true] rfl rfl (any_of HT_.out (by kernel_rfl)) (fun _ _ _ h => h) (Or.inl ⟨by rfl, ?_⟩) ?_ ?_
        rotate_left
        · intro w'
          go_simp
          with_reducible rfl
        rotate_left
        · simp only [Act.put, List.setIfInBounds_toArray, List.set_cons_zero, List.set_cons_succ, i64_w, i32_w]
          rfl
        refine done_ (done_of HT_.out (by kernel_rfl)) ?_
        go_wp2
        go_meet
        exact ⟨sb, rfl, rfl, ⟨fill6 hK5.out _ _ _ _ _ _⟩, ⟨hge⟩, ⟨below6 hHeld hge _ _ _ _ _ _⟩⟩
    case rest =>
      obtain ⟨sb, rfl, rfl, HSB, HGE, HBW⟩ := hcut
      have HB1 := Aside0.mk (below_step HBX.out HBW.out)
      have HO1 := Aside0.mk (Kd.R_below HO.out (below_step HBR.out HBW.out))
      have g0 : wc.cell? ⟨sb, 0, none⟩ = some (.int .i64 a0) := (blk_cell HSB.out 0).trans rfl
      clear HO HB HBX HBW HSB HX0 HBR
      generalize joinTo cl l i = xs at HO1 HX HL
      go_wp2_with (at_builtin; go_must (refine Kd.R_append (Kd.int .i64) (w0 := w) w.heap.size rfl _ _ 47 3 _ 8 rfl Try.underlying47 info3 rfl (by decide) (by decide) (.slice A3 xs.length c3) xs a0 [.int .i64 a0] (fun _ => True) (fun _ => False) rfl ?c4 rfl (fun _ h => h.elim) (fun _ _ => trivial) HO1.out HB1.out HB1.out.size ?c3 ?_; (case c4 => simp [go_sem]); (case c3 => rw [HL.out]; have := HN.out; omega); intro v2 w2 hr2 hb2 hg2 ho2; clear hg2 ho2; have HR2 := Aside0.mk hr2; have HB2 := Aside0.mk hb2; clear hr2 hb2))
      go_roundg (l.length - (i + 1))
      case measure => omega
      case rel => have hn := HN.out; exact ⟨i + 1, by omega, by omega, congrArg (Value.int .i64) (w1 (i : Int) (by omega) (by omega)), ⟨by rw [HX.out]; exact HR2.out⟩, HB2⟩
  · obtain rfl : i = l.length := by omega
    have hz1 : decide (l.length < l.length) = false := by simp
    have hz2 : decide ((l.length : Int) < (l.length : Int)) = false := by simp
    have HE : Aside0 (joinTo cl l l.length = l.map fun s => (actV cl s.f6 (s.f0 / 1048576)).1) := ⟨by unfold joinTo; rw [List.take_length]⟩
    clear hlt
    go_wp2
    go_ret
    exact ⟨_, rfl, by rw [← HE.out]; exact HO.out, HB.out⟩
set_option maxHeartbeats 8000000 in
set_option maxRecDepth 100000 in
theorem Strangers_calls (A0 : Option Addr) (c0 : Nat) (cl : List S100) (A1 : Option Addr) (c1 : Nat) (l : List S56) (w : World) (hr0 : Kd.C k100 w A0 cl.length cl) (hc0 : cl.length ≤ c0) (hcl : cl.length ≤ 40) (hr1 : Kd.C k56 w A1 l.length l) (hn : l.length ≤ 1000)
    (hok : ∀ s ∈ l, (actV cl s.f6 (s.f0 / 1048576)).2.2.2.2.2.1 = s.f7) :
    Calls Try.prog 15 #[.slice A0 cl.length c0, .slice A1 l.length c1] w fun e w' => e = .returned (.slice none 0 0) ∧ Below w.heap.size w w' := by
  have HR0 := Aside0.mk hr0
  have HR1 := Aside0.mk hr1
  have HN := Aside0.mk hn
  clear hr0 hr1 hn
  go_enter Try.func15, Try.ntmps15
  go_wp2
  go_loopg [5, 12] l.length (fun gg s5 s12 wr => ∃ i : Nat, i ≤ l.length ∧ l.length - i ≤ gg ∧ s12 = .int .i64 (i : Int) ∧ s5 = .slice none 0 0 ∧ Aside0 (Below w.heap.size w wr))
  case atStart => exact ⟨0, Nat.zero_le _, by omega, rfl, rfl, ⟨Below.refl _ _⟩⟩
  case round =>
  obtain ⟨i, hi, hgi, rfl, rfl, HB⟩ := hrel
  by_cases hlt : i < l.length
  · skip
    obtain ⟨ad, A12, c12, A13, c13, e, h0, h1, h2, h3, h4, h5, h6, h7, h8, h9, h10, h11, h12, h13, -, -, -, -⟩ := at_T56 HR1.out (i : Int) (by omega) (by omega)
    subst e
    simp only [Int.toNat_natCast] at h0 h1 h2 h3 h4 h5 h6 h7 h8 h9 h10 h11 h12 h13
    have HX := Aside0.mk (hok (rd_T56 l (i : Int)) (by unfold rd_T56; rw [Int.toNat_natCast, List.getD_eq_getElem?_getD, List.getElem?_eq_getElem (by omega)]; exact List.getElem_mem _))
    have HACT := Aside0.mk (fun W (hb : Below w.heap.size w W) => active_calls 100 A0 c0 cl (rd_T56 l (i : Int)).f6 ((rd_T56 l (i : Int)).f0 / 1048576) _ W (Kd.C_below HR0.out hb) hc0 ((act_ok cl hcl (rd_T56 l (i : Int)).f6 ((rd_T56 l (i : Int)).f0 / 1048576)).1 100 (Nat.le_refl _)))
    generalize actV cl (rd_T56 l (i : Int)).f6 ((rd_T56 l (i : Int)).f0 / 1048576) = ac at HACT HX
    generalize rd_T56 l (i : Int) = x at h0 h1 h2 h3 h4 h5 h6 h7 h8 h9 h10 h11 h12 h13 HACT HX
    obtain ⟨x0, x1, x2, x3, x4, x5, x6, x7, x8, x9, x10, x11, x12, x13⟩ := x
    obtain ⟨a0, a1, a2, a3, a4, a5, a6⟩ := ac
    dsimp only at h0 h1 h2 h3 h4 h5 h6 h7 h8 h9 h10 h11 h12 h13 HACT HX
    replace h0 := (HB.out.cell (World.block_lt_of_cell? _ _ h0)).trans h0
    replace h1 := (HB.out.cell (World.block_lt_of_cell? _ _ h1)).trans h1
    replace h2 := (HB.out.cell (World.block_lt_of_cell? _ _ h2)).trans h2
    replace h3 := (HB.out.cell (World.block_lt_of_cell? _ _ h3)).trans h3
    replace h4 := (HB.out.cell (World.block_lt_of_cell? _ _ h4)).trans h4
    replace h5 := (HB.out.cell (World.block_lt_of_cell? _ _ h5)).trans h5
    replace h6 := (HB.out.cell (World.block_lt_of_cell? _ _ h6)).trans h6
    replace h7 := (HB.out.cell (World.block_lt_of_cell? _ _ h7)).trans h7
    replace h8 := (HB.out.cell (World.block_lt_of_cell? _ _ h8)).trans h8
    replace h9 := (HB.out.cell (World.block_lt_of_cell? _ _ h9)).trans h9
    replace h10 := (HB.out.cell (World.block_lt_of_cell? _ _ h10)).trans h10
    replace h11 := (HB.out.cell (World.block_lt_of_cell? _ _ h11)).trans h11
    replace h12 := (HB.out.cell (World.block_lt_of_cell? _ _ h12)).trans h12
    replace h13 := (HB.out.cell (World.block_lt_of_cell? _ _ h13)).trans h13
    have hz1 : (i : Int) < (l.length : Int) := by omega
    go_upto_region 5 with fail
    have hx0 := blk_new wr (.cells #[.int .i64 x0, .int .i64 x1, .int .i64 x2, .int .i64 x3, .int .i64 x4, .int .i64 x5, .string x6, .string x7, .string x8, .int .i64 x9, .int .i64 x10, .bool x11, .slice A12 x12.length c12, .slice A13 x13.length c13] 56)
    have hbx0 : Below wr.heap.size wr (wr.alloc (.cells #[.int .i64 x0, .int .i64 x1, .int .i64 x2, .int .i64 x3, .int .i64 x4, .int .i64 x5, .string x6, .string x7, .string x8, .int .i64 x9, .int .i64 x10, .bool x11, .slice A12 x12.length c12, .slice A13 x13.length c13] 56)) := below_alloc (Below.refl _ _) _
    clear h0 h1 h2 h3 h4 h5 h6 h7 h8 h9 h10 h11 h12 h13
    generalize wr.alloc (.cells #[.int .i64 x0, .int .i64 x1, .int .i64 x2, .int .i64 x3, .int .i64 x4, .int .i64 x5, .string x6, .string x7, .string x8, .int .i64 x9, .int .i64 x10, .bool x11, .slice A12 x12.length c12, .slice A13 x13.length c13] 56) = wx at hx0 hbx0 ⊢
    have HX0 := Aside0.mk hx0
    have HBX := Aside0.mk (below_step HB.out hbx0)
    have HBR := Aside0.mk hbx0
    clear hx0 hbx0
    replace HACT := Aside0.mk (fun W (hb : Below wx.heap.size wx W) => HACT.out W (below_step HBX.out hb))
    go_cut [8, 9] (fun s8 s9 wz => ∃ sb : Nat, s8 = .pointer (some ⟨sb, 0, none⟩) ∧ s9 = .bool a6 ∧ Aside0 (wz.heap[sb]? = some (.cells #[.int .i64 a0, .int .i64 a1, .int .i64 a2, .string a3, .string a4, .string a5] 100 (0, 0))) ∧ Aside0 (wx.heap.size ≤ sb) ∧ Aside0 (Below wx.heap.size wx wz))
    case first =>
      as_aux_lemma =>
        have e0 : wx.cell? ⟨wr.heap.size, 0, none⟩ = some (.int .i64 x0) := (blk_cell HX0.out 0).trans rfl
        have e6 : wx.cell? ⟨wr.heap.size, 6, none⟩ = some (.string x6) := (blk_cell HX0.out 6).trans rfl
        refine start_ (n := 13) (S := fun w' => Below wx.heap.size wx w') (ds := [11]) #[false, false, false, false, false, false, false, false, false, false, false, false, false] (by kernel_rfl) rfl rfl (Below.refl _ _).drew (fun hHeld => ?_)
        refine with_tabW strT.tab5 strT.bits5 (fun HT_ HW_ => ?_)
        generalize wx.drew = wd at hHeld ⊢
        refine pure_ (i := 0) (N := some 17) (v := ?_) (a' := ?_) #[true, false, false, false, false, false, false, false, false, false, false, false, false] rfl rfl (any_of HT_.out (by kernel_rfl)) (fun _ _ _ h => h) (Or.inl ⟨by rfl, ?_⟩) ?_ ?_
        rotate_left
        · intro w'
          go_simp
          with_reducible rfl
        rotate_left
        · simp only [Act.put, List.setIfInBounds_toArray, List.set_cons_zero, List.set_cons_succ, i64_w, i32_w]
          rfl
        refine pure_ (i := 1) (N := some 18) (v := ?_) (a' := ?_) #[true, true, false, false, false, false, false, false, false, false, false, false, false] rfl rfl (any_of HT_.out (by kernel_rfl)) (fun _ _ _ h => h) (Or.inl ⟨by rfl, ?_⟩) ?_ ?_
        rotate_left
        · intro w'
          go_simp
          with_reducible rfl
        rotate_left
        · simp only [Act.put, List.setIfInBounds_toArray, List.set_cons_zero, List.set_cons_succ, i64_w, i32_w]
          rfl
        refine take_ (i := 2) (N := some 19) (v := ?_) (a' := ?_) #[true, true, true, false, false, false, false, false, false, false, false, false, false] rfl rfl (take_ofW HT_.out HW_.out (by kernel_rfl)) (fun _ _ _ h => h) (Or.inl ⟨by rfl, ?_⟩) hHeld ?_ ?_
        rotate_left
        · intro w' hS
          replace e6 := (hS.cell (World.block_lt_of_cell? _ _ e6)).trans e6
          go_simp
          with_reducible rfl
        rotate_left
        · simp only [Act.put, List.setIfInBounds_toArray, List.set_cons_zero, List.set_cons_succ, i64_w, i32_w]
          rfl
        refine pure_ (i := 3) (N := some 20) (v := ?_) (a' := ?_) #[true, true, true, true, false, false, false, false, false, false, false, false, false] rfl rfl (any_of HT_.out (by kernel_rfl)) (fun _ _ _ h => h) (Or.inl ⟨by rfl, ?_⟩) ?_ ?_
        rotate_left
        · intro w'
          go_simp
          with_reducible rfl
        rotate_left
        · simp only [Act.put, List.setIfInBounds_toArray, List.set_cons_zero, List.set_cons_succ, i64_w, i32_w]
          rfl
        refine take_ (i := 4) (N := some 21) (v := ?_) (a' := ?_) #[true, true, true, true, true, false, false, false, false, false, false, false, false] rfl rfl (take_ofW HT_.out HW_.out (by kernel_rfl)) (fun _ _ _ h => h) (Or.inl ⟨by rfl, ?_⟩) hHeld ?_ ?_
        rotate_left
        · intro w' hS
          replace e0 := (hS.cell (World.block_lt_of_cell? _ _ e0)).trans e0
          go_simp
          with_reducible rfl
        rotate_left
        · simp only [Act.put, List.setIfInBounds_toArray, List.set_cons_zero, List.set_cons_succ, i64_w, i32_w]
          rfl
        refine join_ (σ := Nat) 2 #[true, true, true, true, true, true, true, true, true, true, true, false, false] (fun s => [(22, .int .i64 (x0 / 1048576)), (23, .tuple #[.agg #[.int .i64 a0, .int .i64 a1, .int .i64 a2, .string a3, .string a4, .string a5], .bool a6]), (8, .pointer (some ⟨s, 0, none⟩)), (16, .tuple #[.agg #[.int .i64 a0, .int .i64 a1, .int .i64 a2, .string a3, .string a4, .string a5], .bool a6]), (24, .agg #[.int .i64 a0, .int .i64 a1, .int .i64 a2, .string a3, .string a4, .string a5]), (25, .bool a6)]) (fun s w' => Below wx.heap.size wx w' ∧ w'.heap[s]? = some (.cells #[.int .i64 0, .int .i64 0, .int .i64 0, .string ⟨#[]⟩, .string ⟨#[]⟩, .string ⟨#[]⟩] 100 (0, 0)) ∧ wx.heap.size ≤ s) ?_ ?_
        rotate_left
        · intro hCont
          refine two_ (i := 5) (j := 10) (Ni := some 22) (Nj := some 8) #[true, true, true, true, true, true, false, false, false, false, false, false, false] #[true, true, true, true, true, false, false, false, false, false, true, false, false] rfl rfl rfl rfl (two_of HT_.out (by kernel_rfl)) (by decide) (by decide) (fun K hK => ?_) (fun K hK => ?_)
          · refine goes_ Try.func18 (by kernel_rfl) rfl #[.int .i64 x0] (by rfl) rfl rfl (by (try simp only [List.map_toArray, List.map_cons, List.map_nil]); first | done | rfl) ?_
            with_reducible refine (span_Slot.calls x0 (x0 / 1048576) _ rfl).mono ?_
            rintro e wn ⟨rfl, ⟨nd, rfl⟩⟩
            refine ⟨_, rfl, ?_⟩
            replace hHeld := pw_below_drewN hHeld nd
            refine hK.out _ _ hHeld (fun hHeld => ?_)
            clear hK K
            refine norm_ (a' := ?_) ?_ ?_
            rotate_left
            · show Act.put _ (some 22) _ = _
              simp only [Act.put, List.setIfInBounds_toArray, List.set_cons_zero, List.set_cons_succ, i64_w, i32_w]
              rfl
            refine two_ (i := 6) (j := 10) (Ni := some 23) (Nj := some 8) #[true, true, true, true, true, true, true, false, false, false, false, false, false] #[true, true, true, true, true, true, false, false, false, false, true, false, false] rfl rfl rfl rfl (two_of HT_.out (by kernel_rfl)) (by decide) (by decide) (fun K hK => ?_) (fun K hK => ?_)
            · refine goes_ Try.func39 (by kernel_rfl) rfl #[.slice A0 cl.length c0, .string x6, .int .i64 (x0 / 1048576)] (by rfl) rfl rfl (by (try simp only [List.map_toArray, List.map_cons, List.map_nil]); first | done | rfl) ?_
              with_reducible refine (HACT.out _ hHeld).mono ?_
              rintro e wn ⟨rfl, hb⟩
              refine ⟨_, rfl, ?_⟩
              replace hHeld := below_step hHeld hb
              clear hb
              refine hK.out _ _ hHeld (fun hHeld => ?_)
              clear hK K
              refine norm_ (a' := ?_) ?_ ?_
              rotate_left
              · show Act.put _ (some 23) _ = _
                simp only [Act.put, List.setIfInBounds_toArray, List.set_cons_zero, List.set_cons_succ, i64_w, i32_w]
                rfl
              refine pure_ (i := 7) (N := some 16) (v := ?_) (a' := ?_) #[true, true, true, true, true, true, true, true, false, false, false, false, false] rfl rfl (any_of HT_.out (by kernel_rfl)) (fun _ _ _ h => h) (Or.inl ⟨by rfl, ?_⟩) ?_ ?_
              rotate_left
              · intro w'
                go_simp
                with_reducible rfl
              rotate_left
              · simp only [Act.put, List.setIfInBounds_toArray, List.set_cons_zero, List.set_cons_succ, i64_w, i32_w]
                rfl
              refine pure_ (i := 8) (N := some 24) (v := ?_) (a' := ?_) #[true, true, true, true, true, true, true, true, true, false, false, false, false] rfl rfl (any_of HT_.out (by kernel_rfl)) (fun _ _ _ h => h) (Or.inl ⟨by rfl, ?_⟩) ?_ ?_
              rotate_left
              · intro w'
                go_simp
                with_reducible rfl
              rotate_left
              · simp only [Act.put, List.setIfInBounds_toArray, List.set_cons_zero, List.set_cons_succ, i64_w, i32_w]
                rfl
              refine pure_ (i := 9) (N := some 25) (v := ?_) (a' := ?_) #[true, true, true, true, true, true, true, true, true, true, false, false, false] rfl rfl (any_of HT_.out (by kernel_rfl)) (fun _ _ _ h => h) (Or.inl ⟨by rfl, ?_⟩) ?_ ?_
              rotate_left
              · intro w'
                go_simp
                with_reducible rfl
              rotate_left
              · simp only [Act.put, List.setIfInBounds_toArray, List.set_cons_zero, List.set_cons_succ, i64_w, i32_w]
                rfl
              refine one_ (i := 10) (N := some 8) #[true, true, true, true, true, true, true, true, true, true, true, false, false] rfl rfl (one_of HT_.out (by kernel_rfl)) (by decide) (fun K hK => ?_)
              refine box_step ?hg (N := 8) ?hd (cs := #[.int .i64 0, .int .i64 0, .int .i64 0, .string ⟨#[]⟩, .string ⟨#[]⟩, .string ⟨#[]⟩]) (t := 100) ?hr ?_; (case hd => rfl); (case hg => rfl); (case hr => first | (go_simp; done) | (go_simp; rfl))
              intro sb hsb ws hbx hb
              have hge : wx.heap.size ≤ sb := by rw [hsb]; exact hHeld.size
              clear hsb
              replace hHeld := below_step hHeld hb
              clear hb
              refine hK.out _ _ hHeld (fun hHeld => ?_)
              clear hK K
              refine norm_ (a' := ?_) ?_ ?_
              rotate_left
              · show Act.put _ (some 8) _ = _
                simp only [Act.put, List.setIfInBounds_toArray, List.set_cons_zero, List.set_cons_succ, i64_w, i32_w]
                rfl
              exact norm_ (by simp only [putAll, Act.put, List.setIfInBounds_toArray, List.set_cons_zero, List.set_cons_succ]) (hCont sb _ ⟨hHeld, hbx, hge⟩)
            · refine box_step ?hg (N := 8) ?hd (cs := #[.int .i64 0, .int .i64 0, .int .i64 0, .string ⟨#[]⟩, .string ⟨#[]⟩, .string ⟨#[]⟩]) (t := 100) ?hr ?_; (case hd => rfl); (case hg => rfl); (case hr => first | (go_simp; done) | (go_simp; rfl))
              intro sb hsb ws hbx hb
              have hge : wx.heap.size ≤ sb := by rw [hsb]; exact hHeld.size
              clear hsb
              replace hHeld := below_step hHeld hb
              clear hb
              refine hK.out _ _ hHeld (fun hHeld => ?_)
              clear hK K
              refine norm_ (a' := ?_) ?_ ?_
              rotate_left
              · show Act.put _ (some 8) _ = _
                simp only [Act.put, List.setIfInBounds_toArray, List.set_cons_zero, List.set_cons_succ, i64_w, i32_w]
                rfl
              refine one_ (i := 6) (N := some 23) #[true, true, true, true, true, true, true, false, false, false, true, false, false] rfl rfl (one_of HT_.out (by kernel_rfl)) (by decide) (fun K hK => ?_)
              refine goes_ Try.func39 (by kernel_rfl) rfl #[.slice A0 cl.length c0, .string x6, .int .i64 (x0 / 1048576)] (by rfl) rfl rfl (by (try simp only [List.map_toArray, List.map_cons, List.map_nil]); first | done | rfl) ?_
              with_reducible refine (HACT.out _ hHeld).mono ?_
              rintro e wn ⟨rfl, hb⟩
              refine ⟨_, rfl, ?_⟩
              replace hbx := blk_below hbx hb
              replace hHeld := below_step hHeld hb
              clear hb
              refine hK.out _ _ hHeld (fun hHeld => ?_)
              clear hK K
              refine norm_ (a' := ?_) ?_ ?_
              rotate_left
              · show Act.put _ (some 23) _ = _
                simp only [Act.put, List.setIfInBounds_toArray, List.set_cons_zero, List.set_cons_succ, i64_w, i32_w]
                rfl
              refine pure_ (i := 7) (N := some 16) (v := ?_) (a' := ?_) #[true, true, true, true, true, true, true, true, false, false, true, false, false] rfl rfl (any_of HT_.out (by kernel_rfl)) (fun _ _ _ h => h) (Or.inl ⟨by rfl, ?_⟩) ?_ ?_
              rotate_left
              · intro w'
                go_simp
                with_reducible rfl
              rotate_left
              · simp only [Act.put, List.setIfInBounds_toArray, List.set_cons_zero, List.set_cons_succ, i64_w, i32_w]
                rfl
              refine pure_ (i := 8) (N := some 24) (v := ?_) (a' := ?_) #[true, true, true, true, true, true, true, true, true, false, true, false, false] rfl rfl (any_of HT_.out (by kernel_rfl)) (fun _ _ _ h => h) (Or.inl ⟨by rfl, ?_⟩) ?_ ?_
              rotate_left
              · intro w'
                go_simp
                with_reducible rfl
              rotate_left
              · simp only [Act.put, List.setIfInBounds_toArray, List.set_cons_zero, List.set_cons_succ, i64_w, i32_w]
                rfl
              refine pure_ (i := 9) (N := some 25) (v := ?_) (a' := ?_) #[true, true, true, true, true, true, true, true, true, true, true, false, false] rfl rfl (any_of HT_.out (by kernel_rfl)) (fun _ _ _ h => h) (Or.inl ⟨by rfl, ?_⟩) ?_ ?_
              rotate_left
              · intro w'
                go_simp
                with_reducible rfl
              rotate_left
              · simp only [Act.put, List.setIfInBounds_toArray, List.set_cons_zero, List.set_cons_succ, i64_w, i32_w]
                rfl
              exact norm_ (by simp only [putAll, Act.put, List.setIfInBounds_toArray, List.set_cons_zero, List.set_cons_succ]) (hCont sb _ ⟨hHeld, hbx, hge⟩)
          · refine box_step ?hg (N := 8) ?hd (cs := #[.int .i64 0, .int .i64 0, .int .i64 0, .string ⟨#[]⟩, .string ⟨#[]⟩, .string ⟨#[]⟩]) (t := 100) ?hr ?_; (case hd => rfl); (case hg => rfl); (case hr => first | (go_simp; done) | (go_simp; rfl))
            intro sb hsb ws hbx hb
            have hge : wx.heap.size ≤ sb := by rw [hsb]; exact hHeld.size
            clear hsb
            replace hHeld := below_step hHeld hb
            clear hb
            refine hK.out _ _ hHeld (fun hHeld => ?_)
            clear hK K
            refine norm_ (a' := ?_) ?_ ?_
            rotate_left
            · show Act.put _ (some 8) _ = _
              simp only [Act.put, List.setIfInBounds_toArray, List.set_cons_zero, List.set_cons_succ, i64_w, i32_w]
              rfl
            refine one_ (i := 5) (N := some 22) #[true, true, true, true, true, true, false, false, false, false, true, false, false] rfl rfl (one_of HT_.out (by kernel_rfl)) (by decide) (fun K hK => ?_)
            refine goes_ Try.func18 (by kernel_rfl) rfl #[.int .i64 x0] (by rfl) rfl rfl (by (try simp only [List.map_toArray, List.map_cons, List.map_nil]); first | done | rfl) ?_
            with_reducible refine (span_Slot.calls x0 (x0 / 1048576) _ rfl).mono ?_
            rintro e wn ⟨rfl, ⟨nd, rfl⟩⟩
            refine ⟨_, rfl, ?_⟩
            replace hbx := blk_drewN hbx nd
            replace hHeld := pw_below_drewN hHeld nd
            refine hK.out _ _ hHeld (fun hHeld => ?_)
            clear hK K
            refine norm_ (a' := ?_) ?_ ?_
            rotate_left
            · show Act.put _ (some 22) _ = _
              simp only [Act.put, List.setIfInBounds_toArray, List.set_cons_zero, List.set_cons_succ, i64_w, i32_w]
              rfl
            refine one_ (i := 6) (N := some 23) #[true, true, true, true, true, true, true, false, false, false, true, false, false] rfl rfl (one_of HT_.out (by kernel_rfl)) (by decide) (fun K hK => ?_)
            refine goes_ Try.func39 (by kernel_rfl) rfl #[.slice A0 cl.length c0, .string x6, .int .i64 (x0 / 1048576)] (by rfl) rfl rfl (by (try simp only [List.map_toArray, List.map_cons, List.map_nil]); first | done | rfl) ?_
            with_reducible refine (HACT.out _ hHeld).mono ?_
            rintro e wn ⟨rfl, hb⟩
            refine ⟨_, rfl, ?_⟩
            replace hbx := blk_below hbx hb
            replace hHeld := below_step hHeld hb
            clear hb
            refine hK.out _ _ hHeld (fun hHeld => ?_)
            clear hK K
            refine norm_ (a' := ?_) ?_ ?_
            rotate_left
            · show Act.put _ (some 23) _ = _
              simp only [Act.put, List.setIfInBounds_toArray, List.set_cons_zero, List.set_cons_succ, i64_w, i32_w]
              rfl
            refine pure_ (i := 7) (N := some 16) (v := ?_) (a' := ?_) #[true, true, true, true, true, true, true, true, false, false, true, false, false] rfl rfl (any_of HT_.out (by kernel_rfl)) (fun _ _ _ h => h) (Or.inl ⟨by rfl, ?_⟩) ?_ ?_
            rotate_left
            · intro w'
              go_simp
              with_reducible rfl
            rotate_left
            · simp only [Act.put, List.setIfInBounds_toArray, List.set_cons_zero, List.set_cons_succ, i64_w, i32_w]
              rfl
            refine pure_ (i := 8) (N := some 24) (v := ?_) (a' := ?_) #[true, true, true, true, true, true, true, true, true, false, true, false, false] rfl rfl (any_of HT_.out (by kernel_rfl)) (fun _ _ _ h => h) (Or.inl ⟨by rfl, ?_⟩) ?_ ?_
            rotate_left
            · intro w'
              go_simp
              with_reducible rfl
            rotate_left
            · simp only [Act.put, List.setIfInBounds_toArray, List.set_cons_zero, List.set_cons_succ, i64_w, i32_w]
              rfl
            refine pure_ (i := 9) (N := some 25) (v := ?_) (a' := ?_) #[true, true, true, true, true, true, true, true, true, true, true, false, false] rfl rfl (any_of HT_.out (by kernel_rfl)) (fun _ _ _ h => h) (Or.inl ⟨by rfl, ?_⟩) ?_ ?_
            rotate_left
            · intro w'
              go_simp
              with_reducible rfl
            rotate_left
            · simp only [Act.put, List.setIfInBounds_toArray, List.set_cons_zero, List.set_cons_succ, i64_w, i32_w]
              rfl
            exact norm_ (by simp only [putAll, Act.put, List.setIfInBounds_toArray, List.set_cons_zero, List.set_cons_succ]) (hCont sb _ ⟨hHeld, hbx, hge⟩)
        rintro sb w5 ⟨hHeld, hbx, hge⟩
        have hK5 := Aside0.mk hbx
        have c0 := (blk_cell hbx 0).trans rfl
        have c1 := (blk_cell hbx 1).trans rfl
        have c2 := (blk_cell hbx 2).trans rfl
        have c3 := (blk_cell hbx 3).trans rfl
        have c4 := (blk_cell hbx 4).trans rfl
        have c5 := (blk_cell hbx 5).trans rfl
        have d0 := blk_frozen hbx 0
        have d1 := blk_frozen hbx 1
        have d2 := blk_frozen hbx 2
        have d3 := blk_frozen hbx 3
        have d4 := blk_frozen hbx 4
        have d5 := blk_frozen hbx 5
        clear hbx
        refine norm_ (a' := ?_) ?_ ?_
        rotate_left
        · simp only [putAll, Act.put, List.setIfInBounds_toArray, List.set_cons_zero, List.set_cons_succ]
          rfl
        refine last_ (i := 11) (N := none) #[true, true, true, true, true, true, true, true, true, true, true, true, false] rfl rfl (one_of HT_.out (by kernel_rfl)) (by decide) (fun K hK => ?_)
        rw [if_pos (by rfl)]
        go_simp
        refine hK.out _ _ ?_
        clear hK K
        refine pure_ (i := 12) (N := some 9) (v := ?_) (a' := ?_) #[true, true, true, true, true, true, true, true, true, true, true, true, true] rfl rfl (any_of HT_.out (by kernel_rfl)) (fun _ _ _ h => h) (Or.inl ⟨by rfl, ?_⟩) ?_ ?_
        rotate_left
        · intro w'
          go_simp
          with_reducible rfl
        rotate_left
        · simp only [Act.put, List.setIfInBounds_toArray, List.set_cons_zero, List.set_cons_succ, i64_w, i32_w]
          rfl
        refine done_ (done_of HT_.out (by kernel_rfl)) ?_
        go_wp2
        go_meet
        exact ⟨sb, rfl, rfl, ⟨fill6 hK5.out _ _ _ _ _ _⟩, ⟨hge⟩, ⟨below6 hHeld hge _ _ _ _ _ _⟩⟩
    case rest =>
      obtain ⟨sb, rfl, rfl, HSB, HGE, HBW⟩ := hcut
      have HB1 := Aside0.mk (below_step HBX.out HBW.out)
      have g0 : wc.cell? ⟨sb, 5, none⟩ = some (.string a5) := (blk_cell HSB.out 5).trans rfl
      have g1 : wc.cell? ⟨wr.heap.size, 7, none⟩ = some (.string x7) := (blk_cell (blk_below HX0.out HBW.out) 7).trans rfl
      obtain rfl := HX.out
      have hq : (a5.toList == a5.toList) = true := by simp
      clear HB HBX HBW HSB HX0 HBR
      cases a6 with
      | false =>
        go_wp2
        go_roundg (l.length - (i + 1))
        case measure => omega
        case rel => have hn := HN.out; exact ⟨i + 1, by omega, by omega, congrArg (Value.int .i64) (w1 (i : Int) (by omega) (by omega)), rfl, HB1⟩
      | true =>
        go_wp2
        go_roundg (l.length - (i + 1))
        case measure => omega
        case rel => have hn := HN.out; exact ⟨i + 1, by omega, by omega, congrArg (Value.int .i64) (w1 (i : Int) (by omega) (by omega)), rfl, HB1⟩
  · obtain rfl : i = l.length := by omega
    have hz1 : decide (l.length < l.length) = false := by simp
    have hz2 : decide ((l.length : Int) < (l.length : Int)) = false := by simp
    clear hlt
    go_wp2
    go_ret
    exact ⟨rfl, HB.out⟩
end Go.Proofs.Ytdadnapfecmmdaa.P
namespace Go.Proofs.Ytdadnapfecmmdaa.P
set_option linter.unusedVariables false
set_option linter.unusedSimpArgs false
open Go.RowKit Go.Proofs.YtdadnapfecmmdaaW.PrintWords Go.Proofs.YtdadnapfecmmdaaW.PrintLast Go.Proofs.YtdadnapfecmmdaaW.PrintMore
open Go.Proofs.Ytdadnapfecmmdaa.Hm
def shiftSp (off : List S91) (s : Sp) : Sp := { s with st := wrap64 (s.st + (offOf off s.clk).1), en := wrap64 (s.en + (offOf off s.clk).1) }
def Shows (fid : Nat) (caps : Array Value) (f : Sp → Sp) (base : Nat) (w0 : World) (ok : World → Prop) : Prop :=
  (∀ (args : Array Value) (w : World), (callFunc fid args).run Try.prog w = .ok (.enter fid args) w) ∧
  ∀ (W : World) (r cp b j : Nat) (l : List Sp) (hj : j < l.length), ok W → Below base w0 W → base ≤ b → b ≤ W.heap.size → W.ownsRow b 56 14 (.slice (some ⟨r, 0, none⟩) l.length cp) l.length (spc l) →
    Calls Try.prog fid (#[.pointer (some ⟨r, j * 14, none⟩)] ++ caps) W fun e w' => e = .returned (.tuple #[]) ∧ w'.ownsRow b 56 14 (.slice (some ⟨r, 0, none⟩) l.length cp) l.length (spc (l.set j (f l[j]))) ∧ Below b W w' ∧ ∀ i, i < W.heap.size → i ≠ r → w'.heap[i]? = W.heap[i]?
theorem own_cell56 {W : World} {b r cp : Nat} {l : List Sp} (ho : W.ownsRow b 56 14 (.slice (some ⟨r, 0, none⟩) l.length cp) l.length (spc l)) (j i : Nat) (hj : j < l.length) (hi : i < 14) : W.cell? ⟨r, j * 14 + i, none⟩ = (l[j].cells)[i]? ∧ W.frozen? ⟨r, j * 14 + i, none⟩ = false ∧ b ≤ r ∧ r < W.heap.size := by
  rcases ho.2 with ⟨_, h⟩ | ⟨r', cap, cur, e, hb, hr, h1, h2, h3, h4⟩
  · omega
  · injection e with e
    injection e with e
    injection e with e
    subst e
    have hc : ∀ i, i < l.length * 14 → cur[i]? = (spc l)[i]? := fun i hi => by
      rw [← h4, List.getElem?_take, if_pos hi, Array.getElem?_toList]
    exact ⟨by rw [blk_cell hr, hc _ (by omega), spc_get l j i hj hi], blk_frozen hr _, hb, blk_lt hr⟩
theorem own_shift {W : World} {b r cp : Nat} {l : List Sp} (ho : W.ownsRow b 56 14 (.slice (some ⟨r, 0, none⟩) l.length cp) l.length (spc l)) (j : Nat) (hj : j < l.length) (st en : Int) :
    ((W.setCell ⟨r, j * 14 + 9, none⟩ (.int .i64 st)).setCell ⟨r, j * 14 + 10, none⟩ (.int .i64 en)).ownsRow b 56 14 (.slice (some ⟨r, 0, none⟩) l.length cp) l.length (spc (l.set j { l[j] with st := st, en := en })) := by
  obtain ⟨o1, g1⟩ := ho.stored (j * 14 + 9) (.int .i64 st)
  obtain ⟨o2, g2⟩ := o1.stored (j * 14 + 10) (.int .i64 en)
  rw [spc_set l j 9 (.int .i64 st) { l[j] with st := st } hj (by omega) rfl] at o1 o2
  rw [spc_set (l.set j { l[j] with st := st }) j 10 (.int .i64 en) { l[j] with st := st, en := en } (by simpa using hj) (by omega) (by simp [Sp.cells])] at o2
  simpa using o2
def showT.T0 : Bool × List (List Nat × List Nat) := (true, [([], []), ([], []), ([1], [1]), ([2], [2]), ([3], [3]), ([0, 4], [0, 4]), ([5], [5]), ([6], [6]), ([6], [6]), ([7, 5, 0, 1, 2, 3, 4, 5, 6, 7], [7]), ([8, 9, 0, 1, 2, 3, 4, 5, 6, 7, 8, 9], [8])])
def showT.B0 : List Nat := [0, 0, 2, 6, 14, 31, 63, 127, 127, 255, 1023]
theorem showT.tab0 : rtab .any (opsOf Try.f37 0) = showT.T0 := by kernel_rfl
theorem showT.bits0 : waitsOk showT.T0.2 showT.B0 = true := by kernel_rfl
def showT.T1 : Bool × List (List Nat × List Nat) := (true, [([], []), ([], []), ([], []), ([2], [2]), ([3], [3]), ([4], [4]), ([], []), ([5, 6], [5, 6]), ([], []), ([8], [8]), ([9], [9]), ([10], [10]), ([], []), ([11, 12], [11, 12]), ([0, 0, 2, 3, 4, 5, 6, 7, 11], [0]), ([14, 0, 2, 3, 4, 5, 6, 7, 11], [14]), ([15, 7, 0, 2, 3, 4, 5, 6, 7, 11], [7, 15]), ([1, 0, 1, 2, 3, 4, 5, 6, 7, 8, 9, 10, 11, 12, 13, 14, 15, 16], [1]), ([17, 0, 1, 2, 3, 4, 5, 6, 7, 8, 9, 10, 11, 12, 13, 14, 15, 16], [17]), ([18, 13, 16, 0, 1, 2, 3, 4, 5, 6, 7, 8, 9, 10, 11, 12, 13, 14, 15, 16], [13, 18])])
def showT.B1 : List Nat := [0, 0, 0, 4, 12, 28, 0, 124, 0, 256, 768, 1792, 0, 7936, 4093, 20477, 53245, 131071, 262143, 524287]
theorem showT.tab1 : rtab .any (opsOf Try.f37 1) = showT.T1 := by kernel_rfl
theorem showT.bits1 : waitsOk showT.T1.2 showT.B1 = true := by kernel_rfl
set_option maxHeartbeats 8000000 in
set_option maxRecDepth 100000 in
theorem traces_shows (w0 : World) (c : Cfg) (p : CfgAt) (bx : Nat) (hR : CfgR w0 p c) : Shows 37 #[pv bx] (shiftSp c.off) w0.heap.size w0 (fun W => W.heap[bx]? = some (.cells (c.cells p) 31 (0, 0))) := by
  refine ⟨fun args w => enters_ Try.func37 (by kernel_rfl) rfl args w, fun W r cp b j l hj hC hB hbb hbW ho => ?_⟩
  obtain ⟨e4, _, hbr, hrW⟩ := own_cell56 ho j 4 hj (by omega)
  have CR := Aside0.mk (hR.below hB)
  have HO := Aside0.mk ho
  have HC := Aside0.mk hC
  obtain ⟨A1, c1, A2, c2, A3, c3, A4, c4⟩ := p
  have q0 : W.cell? ⟨r, j * 14 + 4, none⟩ = some (.int .i64 l[j].clk) := e4
  have q1 : W.cell? ⟨bx, 0, none⟩ = some (.int .i64 c.seed) := (blk_cell HC.out 0).trans rfl
  have q2 : W.cell? ⟨bx, 1, none⟩ = some (.slice A1 c.sv.length c1) := (blk_cell HC.out 1).trans rfl
  have q3 : W.cell? ⟨bx, 2, none⟩ = some (.slice A2 c.off.length c2) := (blk_cell HC.out 2).trans rfl
  have q4 : W.cell? ⟨bx, 3, none⟩ = some (.slice A3 c.ch.length c3) := (blk_cell HC.out 3).trans rfl
  have q5 : W.cell? ⟨bx, 4, none⟩ = some (.slice A4 c.fl.length c4) := (blk_cell HC.out 4).trans rfl
  have q6 : W.cell? ⟨bx, 5, none⟩ = some (.int .i64 c.sfrom) := (blk_cell HC.out 5).trans rfl
  have q7 : W.cell? ⟨bx, 6, none⟩ = some (.int .i64 c.sto) := (blk_cell HC.out 6).trans rfl
  have q8 : W.cell? ⟨bx, 7, none⟩ = some (.int .i64 c.per) := (blk_cell HC.out 7).trans rfl
  have q9 : W.cell? ⟨bx, 8, none⟩ = some (.int .i64 c.delay) := (blk_cell HC.out 8).trans rfl
  have q10 : W.cell? ⟨bx, 9, none⟩ = some (.int .i64 c.chunk) := (blk_cell HC.out 9).trans rfl
  have q11 : W.cell? ⟨bx, 10, none⟩ = some (.int .i64 c.loss) := (blk_cell HC.out 10).trans rfl
  have q12 : W.cell? ⟨bx, 11, none⟩ = some (.int .i64 c.rep) := (blk_cell HC.out 11).trans rfl
  have EO := Aside0.mk (show shiftSp c.off l[j] = { l[j] with st := wrap64 (l[j].st + (offOf c.off l[j].clk).1), en := wrap64 (l[j].en + (offOf c.off l[j].clk).1) } from rfl)
  clear ho hC e4 hB hR
  simp only [List.append_toArray, List.cons_append, List.nil_append]
  go_enter Try.func37, Try.ntmps37
  go_wp2_with fail
  refine start_ (n := 11) (S := fun w' => Below W.heap.size W w') (ds := []) #[false, false, false, false, false, false, false, false, false, false, false] (by kernel_rfl) rfl rfl (Below.refl _ _).drew (fun hHeld => ?_)
  refine with_tabW showT.tab0 showT.bits0 (fun HT_ HW_ => ?_)
  generalize W.drew = wd at hHeld ⊢
  refine take_ (i := 0) (N := some 6) (v := ?_) (a' := ?_) #[true, false, false, false, false, false, false, false, false, false, false] rfl rfl (take_ofW HT_.out HW_.out (by kernel_rfl)) (fun _ _ _ h => h) (Or.inl ⟨by rfl, ?_⟩) hHeld ?_ ?_
  rotate_left
  · intro w' hS
    replace q0 := (hS.cell (World.block_lt_of_cell? _ _ q0)).trans q0
    replace q1 := (hS.cell (World.block_lt_of_cell? _ _ q1)).trans q1
    replace q2 := (hS.cell (World.block_lt_of_cell? _ _ q2)).trans q2
    replace q3 := (hS.cell (World.block_lt_of_cell? _ _ q3)).trans q3
    replace q4 := (hS.cell (World.block_lt_of_cell? _ _ q4)).trans q4
    replace q5 := (hS.cell (World.block_lt_of_cell? _ _ q5)).trans q5
    replace q6 := (hS.cell (World.block_lt_of_cell? _ _ q6)).trans q6
    replace q7 := (hS.cell (World.block_lt_of_cell? _ _ q7)).trans q7
    replace q8 := (hS.cell (World.block_lt_of_cell? _ _ q8)).trans q8
    replace q9 := (hS.cell (World.block_lt_of_cell? _ _ q9)).trans q9
    replace q10 := (hS.cell (World.block_lt_of_cell? _ _ q10)).trans q10
    replace q11 := (hS.cell (World.block_lt_of_cell? _ _ q11)).trans q11
    replace q12 := (hS.cell (World.block_lt_of_cell? _ _ q12)).trans q12
    go_simp
    with_reducible rfl
  rotate_left
  · simp only [Act.put, List.setIfInBounds_toArray, List.set_cons_zero, List.set_cons_succ, i64_w, i32_w]
    rfl
  refine pure_ (i := 1) (N := some 7) (v := ?_) (a' := ?_) #[true, true, false, false, false, false, false, false, false, false, false] rfl rfl (any_of HT_.out (by kernel_rfl)) (fun _ _ _ h => h) (Or.inl ⟨by rfl, ?_⟩) ?_ ?_
  rotate_left
  · intro w'
    go_simp
    with_reducible rfl
  rotate_left
  · simp only [Act.put, List.setIfInBounds_toArray, List.set_cons_zero, List.set_cons_succ, i64_w, i32_w]
    rfl
  refine pure_ (i := 2) (N := some 8) (v := ?_) (a' := ?_) #[true, true, true, false, false, false, false, false, false, false, false] rfl rfl (any_of HT_.out (by kernel_rfl)) (fun _ _ _ h => h) (Or.inl ⟨by rfl, ?_⟩) ?_ ?_
  rotate_left
  · intro w'
    go_simp
    with_reducible rfl
  rotate_left
  · simp only [Act.put, List.setIfInBounds_toArray, List.set_cons_zero, List.set_cons_succ, i64_w, i32_w]
    rfl
  refine pure_ (i := 3) (N := some 9) (v := ?_) (a' := ?_) #[true, true, true, true, false, false, false, false, false, false, false] rfl rfl (any_of HT_.out (by kernel_rfl)) (fun _ _ _ h => h) (Or.inl ⟨by rfl, ?_⟩) ?_ ?_
  rotate_left
  · intro w'
    go_simp
    with_reducible rfl
  rotate_left
  · simp only [Act.put, List.setIfInBounds_toArray, List.set_cons_zero, List.set_cons_succ, i64_w, i32_w]
    rfl
  refine take_ (i := 4) (N := some 10) (v := ?_) (a' := ?_) #[true, true, true, true, true, false, false, false, false, false, false] rfl rfl (take_ofW HT_.out HW_.out (by kernel_rfl)) (fun _ _ _ h => h) (Or.inl ⟨by rfl, ?_⟩) hHeld ?_ ?_
  rotate_left
  · intro w' hS
    replace q0 := (hS.cell (World.block_lt_of_cell? _ _ q0)).trans q0
    replace q1 := (hS.cell (World.block_lt_of_cell? _ _ q1)).trans q1
    replace q2 := (hS.cell (World.block_lt_of_cell? _ _ q2)).trans q2
    replace q3 := (hS.cell (World.block_lt_of_cell? _ _ q3)).trans q3
    replace q4 := (hS.cell (World.block_lt_of_cell? _ _ q4)).trans q4
    replace q5 := (hS.cell (World.block_lt_of_cell? _ _ q5)).trans q5
    replace q6 := (hS.cell (World.block_lt_of_cell? _ _ q6)).trans q6
    replace q7 := (hS.cell (World.block_lt_of_cell? _ _ q7)).trans q7
    replace q8 := (hS.cell (World.block_lt_of_cell? _ _ q8)).trans q8
    replace q9 := (hS.cell (World.block_lt_of_cell? _ _ q9)).trans q9
    replace q10 := (hS.cell (World.block_lt_of_cell? _ _ q10)).trans q10
    replace q11 := (hS.cell (World.block_lt_of_cell? _ _ q11)).trans q11
    replace q12 := (hS.cell (World.block_lt_of_cell? _ _ q12)).trans q12
    go_simp
    with_reducible rfl
  rotate_left
  · simp only [Act.put, List.setIfInBounds_toArray, List.set_cons_zero, List.set_cons_succ, i64_w, i32_w]
    rfl
  refine one_ (i := 5) (N := some 11) #[true, true, true, true, true, true, false, false, false, false, false] rfl rfl (one_of HT_.out (by kernel_rfl)) (by decide) (fun K hK => ?_)
  refine goes_ Try.func38 (by kernel_rfl) rfl #[c.val ⟨A1, c1, A2, c2, A3, c3, A4, c4⟩, .int .i64 l[j].clk] (by rfl) rfl rfl (by (try simp only [List.map_toArray, List.map_cons, List.map_nil]); first | done | rfl | (simp only [List.length_drop, List.length_take]; rfl)) ?_
  with_reducible refine (offset_calls c ⟨A1, c1, A2, c2, A3, c3, A4, c4⟩ l[j].clk _ (CR.out.below hHeld)).mono ?_
  rintro e wx ⟨rfl, hb⟩
  refine ⟨_, rfl, ?_⟩
  replace hHeld := below_step hHeld hb
  clear hb
  refine hK.out _ _ hHeld (fun hHeld => ?_)
  clear hK K
  refine norm_ (a' := ?_) ?_ ?_
  rotate_left
  · show Act.put _ (some 11) _ = _
    simp only [Act.put, List.setIfInBounds_toArray, List.set_cons_zero, List.set_cons_succ, i64_w, i32_w]
    rfl
  refine pure_ (i := 6) (N := some 5) (v := ?_) (a' := ?_) #[true, true, true, true, true, true, true, false, false, false, false] rfl rfl (any_of HT_.out (by kernel_rfl)) (fun _ _ _ h => h) (Or.inl ⟨by rfl, ?_⟩) ?_ ?_
  rotate_left
  · intro w'
    go_simp
    with_reducible rfl
  rotate_left
  · simp only [Act.put, List.setIfInBounds_toArray, List.set_cons_zero, List.set_cons_succ, i64_w, i32_w]
    rfl
  refine pure_ (i := 7) (N := some 12) (v := ?_) (a' := ?_) #[true, true, true, true, true, true, true, true, false, false, false] rfl rfl (any_of HT_.out (by kernel_rfl)) (fun _ _ _ h => h) (Or.inl ⟨by rfl, ?_⟩) ?_ ?_
  rotate_left
  · intro w'
    go_simp
    with_reducible rfl
  rotate_left
  · simp only [Act.put, List.setIfInBounds_toArray, List.set_cons_zero, List.set_cons_succ, i64_w, i32_w]
    rfl
  refine pure_ (i := 8) (N := some 13) (v := ?_) (a' := ?_) #[true, true, true, true, true, true, true, true, true, false, false] rfl rfl (any_of HT_.out (by kernel_rfl)) (fun _ _ _ h => h) (Or.inl ⟨by rfl, ?_⟩) ?_ ?_
  rotate_left
  · intro w'
    go_simp
    with_reducible rfl
  rotate_left
  · simp only [Act.put, List.setIfInBounds_toArray, List.set_cons_zero, List.set_cons_succ, i64_w, i32_w]
    rfl
  refine pure_ (i := 9) (N := some 3) (v := ?_) (a' := ?_) #[true, true, true, true, true, true, true, true, true, true, false] rfl rfl (any_of HT_.out (by kernel_rfl)) (fun _ _ _ h => h) (Or.inl ⟨by rfl, ?_⟩) ?_ ?_
  rotate_left
  · intro w'
    go_simp
    with_reducible rfl
  rotate_left
  · simp only [Act.put, List.setIfInBounds_toArray, List.set_cons_zero, List.set_cons_succ, i64_w, i32_w]
    rfl
  refine pure_ (i := 10) (N := some 4) (v := ?_) (a' := ?_) #[true, true, true, true, true, true, true, true, true, true, true] rfl rfl (any_of HT_.out (by kernel_rfl)) (fun _ _ _ h => h) (Or.inl ⟨by rfl, ?_⟩) ?_ ?_
  rotate_left
  · intro w'
    go_simp
    with_reducible rfl
  rotate_left
  · simp only [Act.put, List.setIfInBounds_toArray, List.set_cons_zero, List.set_cons_succ, i64_w, i32_w]
    rfl
  refine done_ (done_of HT_.out (by kernel_rfl)) ?_
  obtain ⟨off, hoff⟩ : ∃ o : Int, o = (offOf c.off l[j].clk).1 := ⟨_, rfl⟩
  rw [← hoff] at EO ⊢
  have HO1 := Aside0.mk (pw_own_below HO.out hHeld)
  have hd : Below wx.heap.size wx wx.drew := (Below.refl _ _).drew
  have HO2 := Aside0.mk (pw_own_below HO1.out hd)
  have HB2 := Aside0.mk ((below_step hHeld hd).mono hbW)
  have HB3 := Aside0.mk (below_step hHeld hd)
  obtain ⟨e9, _, _, _⟩ := own_cell56 HO1.out j 9 hj (by omega)
  obtain ⟨e10, _, _, _⟩ := own_cell56 HO1.out j 10 hj (by omega)
  obtain ⟨g9, f9, _, _⟩ := own_cell56 HO2.out j 9 hj (by omega)
  obtain ⟨g10, f10, _, _⟩ := own_cell56 HO2.out j 10 hj (by omega)
  replace e9 : wx.cell? ⟨r, j * 14 + 9, none⟩ = some (.int .i64 l[j].st) := e9
  replace e10 : wx.cell? ⟨r, j * 14 + 10, none⟩ = some (.int .i64 l[j].en) := e10
  replace g9 : wx.drew.cell? ⟨r, j * 14 + 9, none⟩ = some (.int .i64 l[j].st) := g9
  replace g10 : wx.drew.cell? ⟨r, j * 14 + 10, none⟩ = some (.int .i64 l[j].en) := g10
  clear hHeld hd hoff HO HO1 q0 q1 q2 q3 q4 q5 q6 q7 q8 q9 q10 q11 q12
  go_wp2_with fail
  refine start_ (n := 20) (S := fun w' => Below wx.heap.size wx w') (ds := [16, 19]) #[false, false, false, false, false, false, false, false, false, false, false, false, false, false, false, false, false, false, false, false] (by kernel_rfl) rfl rfl (Below.refl _ _).drew (fun hHeld => ?_)
  refine with_tabW showT.tab1 showT.bits1 (fun HT_ HW_ => ?_)
  generalize wx.drew = wz at hHeld HO2 HB2 HB3 g9 g10 f9 f10 ⊢
  refine with_tabW showT.tab1 showT.bits1 (fun HT_ HW_ => ?_)
  refine pure_ (i := 0) (N := some 14) (v := ?_) (a' := ?_) #[true, false, false, false, false, false, false, false, false, false, false, false, false, false, false, false, false, false, false, false] rfl rfl (any_of HT_.out (by kernel_rfl)) (fun _ _ _ h => h) (Or.inl ⟨by rfl, ?_⟩) ?_ ?_
  rotate_left
  · intro w'
    go_simp
    with_reducible rfl
  rotate_left
  · simp only [Act.put, List.setIfInBounds_toArray, List.set_cons_zero, List.set_cons_succ, i64_w, i32_w]
    rfl
  refine pure_ (i := 1) (N := some 15) (v := ?_) (a' := ?_) #[true, true, false, false, false, false, false, false, false, false, false, false, false, false, false, false, false, false, false, false] rfl rfl (any_of HT_.out (by kernel_rfl)) (fun _ _ _ h => h) (Or.inl ⟨by rfl, ?_⟩) ?_ ?_
  rotate_left
  · intro w'
    go_simp
    with_reducible rfl
  rotate_left
  · simp only [Act.put, List.setIfInBounds_toArray, List.set_cons_zero, List.set_cons_succ, i64_w, i32_w]
    rfl
  refine pure_ (i := 2) (N := some 16) (v := ?_) (a' := ?_) #[true, true, true, false, false, false, false, false, false, false, false, false, false, false, false, false, false, false, false, false] rfl rfl (any_of HT_.out (by kernel_rfl)) (fun _ _ _ h => h) (Or.inl ⟨by rfl, ?_⟩) ?_ ?_
  rotate_left
  · intro w'
    go_simp
    with_reducible rfl
  rotate_left
  · simp only [Act.put, List.setIfInBounds_toArray, List.set_cons_zero, List.set_cons_succ, i64_w, i32_w]
    rfl
  refine pure_ (i := 3) (N := some 17) (v := ?_) (a' := ?_) #[true, true, true, true, false, false, false, false, false, false, false, false, false, false, false, false, false, false, false, false] rfl rfl (any_of HT_.out (by kernel_rfl)) (fun _ _ _ h => h) (Or.inl ⟨by rfl, ?_⟩) ?_ ?_
  rotate_left
  · intro w'
    go_simp
    with_reducible rfl
  rotate_left
  · simp only [Act.put, List.setIfInBounds_toArray, List.set_cons_zero, List.set_cons_succ, i64_w, i32_w]
    rfl
  refine pure_ (i := 4) (N := some 18) (v := ?_) (a' := ?_) #[true, true, true, true, true, false, false, false, false, false, false, false, false, false, false, false, false, false, false, false] rfl rfl (any_of HT_.out (by kernel_rfl)) (fun _ _ _ h => h) (Or.inl ⟨by rfl, ?_⟩) ?_ ?_
  rotate_left
  · intro w'
    go_simp
    with_reducible rfl
  rotate_left
  · simp only [Act.put, List.setIfInBounds_toArray, List.set_cons_zero, List.set_cons_succ, i64_w, i32_w]
    rfl
  refine take_ (i := 5) (N := some 19) (v := ?_) (a' := ?_) #[true, true, true, true, true, true, false, false, false, false, false, false, false, false, false, false, false, false, false, false] rfl rfl (take_ofW HT_.out HW_.out (by kernel_rfl)) (fun _ _ _ h => h) (Or.inl ⟨by rfl, ?_⟩) hHeld ?_ ?_
  rotate_left
  · intro w' hS
    replace e9 := (hS.cell (World.block_lt_of_cell? _ _ e9)).trans e9
    replace e10 := (hS.cell (World.block_lt_of_cell? _ _ e10)).trans e10
    go_simp
    with_reducible rfl
  rotate_left
  · simp only [Act.put, List.setIfInBounds_toArray, List.set_cons_zero, List.set_cons_succ, i64_w, i32_w]
    rfl
  refine pure_ (i := 6) (N := some 20) (v := ?_) (a' := ?_) #[true, true, true, true, true, true, true, false, false, false, false, false, false, false, false, false, false, false, false, false] rfl rfl (any_of HT_.out (by kernel_rfl)) (fun _ _ _ h => h) (Or.inl ⟨by rfl, ?_⟩) ?_ ?_
  rotate_left
  · intro w'
    go_simp
    with_reducible rfl
  rotate_left
  · simp only [Act.put, List.setIfInBounds_toArray, List.set_cons_zero, List.set_cons_succ, i64_w, i32_w]
    rfl
  refine pure_ (i := 7) (N := some 21) (v := ?_) (a' := ?_) #[true, true, true, true, true, true, true, true, false, false, false, false, false, false, false, false, false, false, false, false] rfl rfl (any_of HT_.out (by kernel_rfl)) (fun _ _ _ h => h) (Or.inl ⟨by rfl, ?_⟩) ?_ ?_
  rotate_left
  · intro w'
    go_simp
    with_reducible rfl
  rotate_left
  · simp only [Act.put, List.setIfInBounds_toArray, List.set_cons_zero, List.set_cons_succ, i64_w, i32_w]
    rfl
  refine pure_ (i := 8) (N := some 22) (v := ?_) (a' := ?_) #[true, true, true, true, true, true, true, true, true, false, false, false, false, false, false, false, false, false, false, false] rfl rfl (any_of HT_.out (by kernel_rfl)) (fun _ _ _ h => h) (Or.inl ⟨by rfl, ?_⟩) ?_ ?_
  rotate_left
  · intro w'
    go_simp
    with_reducible rfl
  rotate_left
  · simp only [Act.put, List.setIfInBounds_toArray, List.set_cons_zero, List.set_cons_succ, i64_w, i32_w]
    rfl
  refine pure_ (i := 9) (N := some 23) (v := ?_) (a' := ?_) #[true, true, true, true, true, true, true, true, true, true, false, false, false, false, false, false, false, false, false, false] rfl rfl (any_of HT_.out (by kernel_rfl)) (fun _ _ _ h => h) (Or.inl ⟨by rfl, ?_⟩) ?_ ?_
  rotate_left
  · intro w'
    go_simp
    with_reducible rfl
  rotate_left
  · simp only [Act.put, List.setIfInBounds_toArray, List.set_cons_zero, List.set_cons_succ, i64_w, i32_w]
    rfl
  refine pure_ (i := 10) (N := some 24) (v := ?_) (a' := ?_) #[true, true, true, true, true, true, true, true, true, true, true, false, false, false, false, false, false, false, false, false] rfl rfl (any_of HT_.out (by kernel_rfl)) (fun _ _ _ h => h) (Or.inl ⟨by rfl, ?_⟩) ?_ ?_
  rotate_left
  · intro w'
    go_simp
    with_reducible rfl
  rotate_left
  · simp only [Act.put, List.setIfInBounds_toArray, List.set_cons_zero, List.set_cons_succ, i64_w, i32_w]
    rfl
  refine take_ (i := 11) (N := some 25) (v := ?_) (a' := ?_) #[true, true, true, true, true, true, true, true, true, true, true, true, false, false, false, false, false, false, false, false] rfl rfl (take_ofW HT_.out HW_.out (by kernel_rfl)) (fun _ _ _ h => h) (Or.inl ⟨by rfl, ?_⟩) hHeld ?_ ?_
  rotate_left
  · intro w' hS
    replace e9 := (hS.cell (World.block_lt_of_cell? _ _ e9)).trans e9
    replace e10 := (hS.cell (World.block_lt_of_cell? _ _ e10)).trans e10
    go_simp
    with_reducible rfl
  rotate_left
  · simp only [Act.put, List.setIfInBounds_toArray, List.set_cons_zero, List.set_cons_succ, i64_w, i32_w]
    rfl
  refine pure_ (i := 12) (N := some 26) (v := ?_) (a' := ?_) #[true, true, true, true, true, true, true, true, true, true, true, true, true, false, false, false, false, false, false, false] rfl rfl (any_of HT_.out (by kernel_rfl)) (fun _ _ _ h => h) (Or.inl ⟨by rfl, ?_⟩) ?_ ?_
  rotate_left
  · intro w'
    go_simp
    with_reducible rfl
  rotate_left
  · simp only [Act.put, List.setIfInBounds_toArray, List.set_cons_zero, List.set_cons_succ, i64_w, i32_w]
    rfl
  refine pure_ (i := 13) (N := some 27) (v := ?_) (a' := ?_) #[true, true, true, true, true, true, true, true, true, true, true, true, true, true, false, false, false, false, false, false] rfl rfl (any_of HT_.out (by kernel_rfl)) (fun _ _ _ h => h) (Or.inl ⟨by rfl, ?_⟩) ?_ ?_
  rotate_left
  · intro w'
    go_simp
    with_reducible rfl
  rotate_left
  · simp only [Act.put, List.setIfInBounds_toArray, List.set_cons_zero, List.set_cons_succ, i64_w, i32_w]
    rfl
  refine pure_ (i := 14) (N := some 28) (v := ?_) (a' := ?_) #[true, true, true, true, true, true, true, true, true, true, true, true, true, true, true, false, false, false, false, false] rfl rfl (any_of HT_.out (by kernel_rfl)) (fun _ _ _ h => h) (Or.inl ⟨by rfl, ?_⟩) ?_ ?_
  rotate_left
  · intro w'
    go_simp
    with_reducible rfl
  rotate_left
  · simp only [Act.put, List.setIfInBounds_toArray, List.set_cons_zero, List.set_cons_succ, i64_w, i32_w]
    rfl
  refine pure_ (i := 15) (N := some 29) (v := ?_) (a' := ?_) #[true, true, true, true, true, true, true, true, true, true, true, true, true, true, true, true, false, false, false, false] rfl rfl (any_of HT_.out (by kernel_rfl)) (fun _ _ _ h => h) (Or.inl ⟨by rfl, ?_⟩) ?_ ?_
  rotate_left
  · intro w'
    go_simp
    with_reducible rfl
  rotate_left
  · simp only [Act.put, List.setIfInBounds_toArray, List.set_cons_zero, List.set_cons_succ, i64_w, i32_w]
    rfl
  refine last_ (i := 16) (N := none) #[true, true, true, true, true, true, true, true, true, true, true, true, true, true, true, true, true, false, false, false] rfl rfl (one_of HT_.out (by kernel_rfl)) (by decide) (fun K hK => ?_)
  rw [if_pos (by rfl)]
  go_simp
  refine hK.out _ _ ?_
  clear hK K
  refine pure_ (i := 17) (N := some 30) (v := ?_) (a' := ?_) #[true, true, true, true, true, true, true, true, true, true, true, true, true, true, true, true, true, true, false, false] rfl rfl (any_of HT_.out (by kernel_rfl)) (fun _ _ _ h => h) (Or.inl ⟨by rfl, ?_⟩) ?_ ?_
  rotate_left
  · intro w'
    go_simp
    with_reducible rfl
  rotate_left
  · simp only [Act.put, List.setIfInBounds_toArray, List.set_cons_zero, List.set_cons_succ, i64_w, i32_w]
    rfl
  refine pure_ (i := 18) (N := some 31) (v := ?_) (a' := ?_) #[true, true, true, true, true, true, true, true, true, true, true, true, true, true, true, true, true, true, true, false] rfl rfl (any_of HT_.out (by kernel_rfl)) (fun _ _ _ h => h) (Or.inl ⟨by rfl, ?_⟩) ?_ ?_
  rotate_left
  · intro w'
    go_simp
    with_reducible rfl
  rotate_left
  · simp only [Act.put, List.setIfInBounds_toArray, List.set_cons_zero, List.set_cons_succ, i64_w, i32_w]
    rfl
  refine last_ (i := 19) (N := none) #[true, true, true, true, true, true, true, true, true, true, true, true, true, true, true, true, true, true, true, true] rfl rfl (one_of HT_.out (by kernel_rfl)) (by decide) (fun K hK => ?_)
  rw [if_pos (by rfl)]
  go_simp
  refine hK.out _ _ ?_
  clear hK K
  refine done_ (done_of HT_.out (by kernel_rfl)) ?_
  go_wp2_with fail
  go_returns
  refine ⟨by rfl, ?_, ?_, ?_⟩
  · rw [EO.out]
    with_reducible exact own_shift HO2.out j hj _ _
  · exact (HB2.out.setCell hbr _).setCell hbr _
  · intro i hi hir
    rw [Below.heap_setCell _ _ _ _ hir, Below.heap_setCell _ _ _ _ hir]
    exact HB3.out.block i hi
end Go.Proofs.Ytdadnapfecmmdaa.P
namespace Go.Proofs.Ytdadnapfecmmdaa.P
set_option linter.unusedVariables false
set_option linter.unusedSimpArgs false
open Go.RowKit Go.Proofs.YtdadnapfecmmdaaW.PrintWords Go.Proofs.YtdadnapfecmmdaaW.PrintLast Go.Proofs.YtdadnapfecmmdaaW.PrintMore
open Go.Proofs.Ytdadnapfecmmdaa.Hm
structure Tr where
  id : Int
  l : List Sp
def trc : List (Tr × Value) → List Value
  | [] => []
  | x :: r => [.int .i64 x.1.id, .int .i64 1, x.2] ++ trc r
theorem trc_snoc (l : List (Tr × Value)) (x : Tr × Value) : trc (l ++ [x]) = trc l ++ [.int .i64 x.1.id, .int .i64 1, x.2] := by
  induction l with
  | nil => rfl
  | cons a r ih => simp [trc, ih]
def TsR (W : World) (base : Nat) (xs : List (Tr × Value)) : Prop := ∀ x ∈ xs, W.ownsRow base 56 14 x.2 x.1.l.length (spc x.1.l)
def trK (tv : Int → Option (List Sp)) (f : Sp → Sp) : Nat → Int → List Tr → Option (List Tr)
  | 0, _, acc => some acc
  | j + 1, k, acc => if acc.length < 100000 then (tv k).bind fun l => match l with
    | [] => none
    | s :: r => trK tv f j (k + 1) (acc ++ [⟨s.tr, (s :: r).map f⟩])
    else none
def trS (n : Nat) (c : Cfg) (f : Sp → Sp) : Nat → Int → List Tr → Option (List Tr)
  | 0, _, acc => some acc
  | j + 1, s, acc => (trK (traceV n c s) f c.per.toNat 0 acc).bind fun a => trS n c f j (s + 1) a
def tracesV (n : Nat) (c : Cfg) (f : Sp → Sp) : Option (List Tr) := if 0 ≤ c.sfrom ∧ c.sto ≤ 1048576 ∧ c.per ≤ 1048576 then trS n c f (c.sto - c.sfrom).toNat c.sfrom [] else none
theorem own_base {W : World} {b b' : Nat} {e : TypeId} {sz n : Nat} {v : Value} {xs : List Value} (h : W.ownsRow b e sz v n xs) (hb : b' ≤ b) : W.ownsRow b' e sz v n xs := by
  refine ⟨h.1, ?_⟩
  rcases h.2 with h | ⟨g, cap, cur, h1, h2, h3⟩
  · exact .inl h
  · exact .inr ⟨g, cap, cur, h1, Nat.le_trans hb h2, h3⟩
theorem TsR.below {W W' : World} {base : Nat} {xs : List (Tr × Value)} (h : TsR W base xs) (hb : Below W.heap.size W W') : TsR W' base xs := fun x hx => pw_own_below (h x hx) hb
theorem own_keep {W W' : World} {b : Nat} {e : TypeId} {sz n : Nat} {v : Value} {xs : List Value} (h : W.ownsRow b e sz v n xs) (hk : ∀ (g : Nat) (cur : Array Value), W.heap[g]? = some (Obj.cells cur e (0, 0)) → W'.heap[g]? = W.heap[g]?) : W'.ownsRow b e sz v n xs := by
  refine ⟨h.1, ?_⟩
  rcases h.2 with h | ⟨g, cap, cur, h1, h2, h3, h4⟩
  · exact .inl h
  · exact .inr ⟨g, cap, cur, h1, h2, (hk g cur h3).trans h3, h4⟩
theorem own_some {W : World} {b : Nat} {e : TypeId} {sz n : Nat} {v : Value} {xs : List Value} (h : W.ownsRow b e sz v n xs) (hn : 0 < n) : ∃ (r cp : Nat) (cur : Array Value), v = .slice (some ⟨r, 0, none⟩) n cp ∧ W.heap[r]? = some (Obj.cells cur e (0, 0)) ∧ b ≤ r := by
  rcases h.2 with ⟨_, h⟩ | ⟨g, cap, cur, h1, h2, h3, h4⟩
  · omega
  · exact ⟨g, cap, cur, h1, h3, h2⟩
def TsOut (base : Nat) (w' : World) (ts : List Tr) (v : Value) : Prop := ∃ xs : List (Tr × Value), xs.map (·.1) = ts ∧ w'.ownsRow base 51 3 v xs.length (trc xs) ∧ TsR w' base xs
def mid (f : Sp → Sp) (l : List Sp) (i : Nat) : List Sp := (l.take i).map f ++ l.drop i
theorem mid_len (f : Sp → Sp) (l : List Sp) (i : Nat) : (mid f l i).length = l.length := by
  unfold mid
  rw [List.length_append, List.length_map, List.length_take, List.length_drop]
  omega
theorem mid_get? (f : Sp → Sp) (l : List Sp) (i : Nat) (hi : i < l.length) : (mid f l i)[i]? = some l[i] := by
  unfold mid
  rw [List.getElem?_append_right (by simp; omega)]
  simp only [List.length_map, List.length_take, List.getElem?_drop]
  rw [show i + (i - min i l.length) = i from by omega, List.getElem?_eq_getElem hi]
theorem mid_get (f : Sp → Sp) (l : List Sp) (i : Nat) (hi : i < l.length) (h : i < (mid f l i).length) : (mid f l i)[i] = l[i] := by
  have h1 := mid_get? f l i hi
  rw [List.getElem?_eq_getElem h] at h1
  exact Option.some.inj h1
theorem mid_set (f : Sp → Sp) (l : List Sp) (i : Nat) (hi : i < l.length) : (mid f l i).set i (f l[i]) = mid f l (i + 1) := by
  unfold mid
  rw [List.set_append_right _ _ (by simp; omega)]
  rw [List.take_succ_eq_append_getElem hi, List.drop_eq_getElem_cons hi]
  simp only [List.length_map, List.length_take, List.map_append, List.map_cons, List.map_nil, List.append_assoc, List.cons_append, List.nil_append]
  rw [show i - min i l.length = 0 from by omega]
  rfl
theorem mid_end (f : Sp → Sp) (l : List Sp) : mid f l l.length = l.map f := by simp [mid]
theorem mid_zero (f : Sp → Sp) (l : List Sp) : mid f l 0 = l := by simp [mid]
set_option maxHeartbeats 8000000 in
set_option maxRecDepth 100000 in
theorem traces_calls (n k : Nat) (c : Cfg) (p : CfgAt) (w : World) (fid : Nat) (caps : Array Value) (f : Sp → Sp) (ts : List Tr) (hR : CfgR w p c) (hsh : Shows fid caps f w.heap.size w (fun W => Below w.heap.size w W)) (hck : ckAll k c = some 0) (h : tracesV n c f = some ts) :
    Calls Try.prog 36 #[c.val p, .func (.func fid) #[] caps] w fun e w' => ∃ v, e = .returned (.tuple #[v, .int .i64 0]) ∧ TsOut w.heap.size w' ts v ∧ Below w.heap.size w w' := by
  unfold tracesV at h
  by_cases hg : 0 ≤ c.sfrom ∧ c.sto ≤ 1048576 ∧ c.per ≤ 1048576
  case neg => rw [if_neg hg] at h; cases h
  rw [if_pos hg] at h
  obtain ⟨hg0, hg1, hg2⟩ := hg
  have HR := Aside0.mk hR
  have HA := Aside0.mk h
  have HCK := Aside0.mk hck
  have eg := hsh.1
  have HSH := Aside0.mk hsh.2
  clear hR h hck hsh
  obtain ⟨A1, c1, A2, c2, A3, c3, A4, c4⟩ := p
  go_enter Try.func36, Try.ntmps36
  go_wp2_with fail
  refine (check_calls k c ⟨A1, c1, A2, c2, A3, c3, A4, c4⟩ 0 _ (HR.out.below (below_alloc (Below.refl _ _) _)) HCK.out).mono ?_
  rintro e w1 ⟨rfl, hb1⟩
  have HB := Aside0.mk (below_step (below_alloc (Below.refl w.heap.size w) _) hb1)
  have HX := Aside0.mk (blk_below (blk_new w (.cells (c.cells ⟨A1, c1, A2, c2, A3, c3, A4, c4⟩) 31)) hb1)
  clear hb1 HCK
  have q5 : w1.cell? ⟨w.heap.size, 5, none⟩ = some (.int .i64 c.sfrom) := (blk_cell HX.out 5).trans rfl
  go_wp2_with fail
  clear q5
  go_loopg [7, 8] (c.sto - c.sfrom).toNat (fun gg s7 s8 wr => ∃ (j : Nat) (s : Int) (acc : List Tr) (xs : List (Tr × Value)) (cp : Nat) (A : Option Addr), s7 = .slice A xs.length cp ∧ s8 = .int .i64 s ∧ j ≤ gg ∧ Aside0 (j = (c.sto - s).toNat) ∧ c.sfrom ≤ s ∧ Aside0 (trS n c f j s acc = some ts) ∧ Aside0 (xs.map (·.1) = acc) ∧ Aside0 (wr.ownsRow w.heap.size 51 3 (.slice A xs.length cp) xs.length (trc xs)) ∧ Aside0 (TsR wr w.heap.size xs) ∧ Aside0 (Below w.heap.size w wr) ∧ Aside0 (wr.heap[w.heap.size]? = some (.cells (c.cells ⟨A1, c1, A2, c2, A3, c3, A4, c4⟩) 31 (0, 0))))
  case atStart => exact ⟨(c.sto - c.sfrom).toNat, c.sfrom, [], [], 0, none, by rfl, by rfl, by omega, ⟨rfl⟩, by omega, HA, ⟨rfl⟩, ⟨rfl, .inl ⟨rfl, rfl⟩⟩, ⟨fun _ h => by cases h⟩, HB, HX⟩
  case round =>
    clear HA HB HX
    obtain ⟨j, s, acc, xs, cp, A, rfl, rfl, hj, HJ, hs0, HA, HM, HO, HT, HB, HX⟩ := hrel
    have q5 : wr.cell? ⟨w.heap.size, 6, none⟩ = some (.int .i64 c.sto) := (blk_cell HX.out 6).trans rfl
    have q6 : wr.cell? ⟨w.heap.size, 7, none⟩ = some (.int .i64 c.per) := (blk_cell HX.out 7).trans rfl
    cases j with
    | zero =>
      have hjj := HJ.out
      have hx : ¬ s < c.sto := by omega
      have g0 : decide (s < c.sto) = false := by simpa using hx
      have hA := HA.out
      rw [trS] at hA
      obtain rfl := Option.some.inj hA
      clear hA HA hjj HJ
      go_wp2_with fail
      refine bodyPost_ret (results_tmp2 rfl _ _ _) rfl ?_
      exact ⟨_, by rfl, ⟨xs, HM.out, HO.out, HT.out⟩, HB.out⟩
    | succ j =>
      have hjj := HJ.out
      have hx : s < c.sto := by omega
      have g0 : decide (s < c.sto) = true := by simpa using hx
      have hA := HA.out
      rw [trS] at hA
      obtain ⟨a1, hK, hA⟩ := Option.bind_eq_some_iff.mp hA
      have HA := Aside0.mk hA
      have HK := Aside0.mk hK
      have s1 : IntKind.i64.wrap (s + 1) = s + 1 := IntWalk.i64_in _ (by omega)
      have HJ1 := Aside0.mk (show j = (c.sto - (s + 1)).toNat from by omega)
      clear hA hK hjj HJ
      go_wp2_with fail
      obtain ⟨wq, rfl⟩ : ∃ wq : World, wq = wr := ⟨_, rfl⟩
      go_loopg [7, 29] c.per.toNat (fun gg s7 s29 wr => ∃ (i : Nat) (kk : Int) (acc : List Tr) (xs : List (Tr × Value)) (cp : Nat) (A : Option Addr), s7 = .slice A xs.length cp ∧ s29 = .int .i64 kk ∧ i ≤ gg ∧ Aside0 (i = (c.per - kk).toNat) ∧ 0 ≤ kk ∧ Aside0 (trK (traceV n c s) f i kk acc = some a1) ∧ Aside0 (xs.map (·.1) = acc) ∧ Aside0 (wr.ownsRow w.heap.size 51 3 (.slice A xs.length cp) xs.length (trc xs)) ∧ Aside0 (TsR wr w.heap.size xs) ∧ Aside0 (Below w.heap.size w wr) ∧ Aside0 (wr.heap[w.heap.size]? = some (.cells (c.cells ⟨A1, c1, A2, c2, A3, c3, A4, c4⟩) 31 (0, 0))))
      case atStart => exact ⟨c.per.toNat, 0, acc, xs, cp, A, by rfl, by rfl, by omega, ⟨by omega⟩, by omega, HK, HM, HO, HT, HB, HX⟩
      case round =>
        clear HK HM HO HT HB HX q5 q6 g0
        obtain ⟨i, kk, acc, xs, cp, A, rfl, rfl, hi, HI, hk0, HK, HM, HO, HT, HB, HX⟩ := hrel
        cases i with
        | zero =>
          have hii := HI.out
          have hx2 : ¬ kk < c.per := by omega
          have g0 : decide (kk < c.per) = false := by simpa using hx2
          have hK := HK.out
          rw [trK] at hK
          obtain rfl := Option.some.inj hK
          clear hK HK hii HI
          go_wp2_with fail
          go_roundg j
          case measure => omega
          case rel => exact ⟨j, s + 1, acc, xs, cp, A, by rfl, by go_num, Nat.le_refl _, HJ1, by omega, HA, HM, HO, HT, HB, HX⟩
        | succ i =>
          have hii := HI.out
          have hx2 : kk < c.per := by omega
          have g0 : decide (kk < c.per) = true := by simpa using hx2
          have hK := HK.out
          rw [trK] at hK
          by_cases hacc : acc.length < 100000
          case neg => rw [if_neg hacc] at hK; cases hK
          rw [if_pos hacc] at hK
          obtain ⟨l, hl, hK⟩ := Option.bind_eq_some_iff.mp hK
          obtain ⟨sp0, sps, rfl⟩ : ∃ a b, l = a :: b := by
            cases l with
            | nil => cases hK
            | cons a b => exact ⟨a, b, rfl⟩
          have HK' := Aside0.mk hK
          have HL := Aside0.mk hl
          have HI1 := Aside0.mk (show i = (c.per - (kk + 1)).toNat from by omega)
          have s2 : IntKind.i64.wrap (kk + 1) = kk + 1 := IntWalk.i64_in _ (by omega)
          clear hK hl HK hii HI
          have p0 : wr.cell? ⟨w.heap.size, 0, none⟩ = some (.int .i64 c.seed) := (blk_cell HX.out 0).trans rfl
          have p1 : wr.cell? ⟨w.heap.size, 1, none⟩ = some (.slice A1 c.sv.length c1) := (blk_cell HX.out 1).trans rfl
          have p2 : wr.cell? ⟨w.heap.size, 2, none⟩ = some (.slice A2 c.off.length c2) := (blk_cell HX.out 2).trans rfl
          have p3 : wr.cell? ⟨w.heap.size, 3, none⟩ = some (.slice A3 c.ch.length c3) := (blk_cell HX.out 3).trans rfl
          have p4 : wr.cell? ⟨w.heap.size, 4, none⟩ = some (.slice A4 c.fl.length c4) := (blk_cell HX.out 4).trans rfl
          have p5 : wr.cell? ⟨w.heap.size, 5, none⟩ = some (.int .i64 c.sfrom) := (blk_cell HX.out 5).trans rfl
          have p6 : wr.cell? ⟨w.heap.size, 6, none⟩ = some (.int .i64 c.sto) := (blk_cell HX.out 6).trans rfl
          have p7 : wr.cell? ⟨w.heap.size, 7, none⟩ = some (.int .i64 c.per) := (blk_cell HX.out 7).trans rfl
          have p8 : wr.cell? ⟨w.heap.size, 8, none⟩ = some (.int .i64 c.delay) := (blk_cell HX.out 8).trans rfl
          have p9 : wr.cell? ⟨w.heap.size, 9, none⟩ = some (.int .i64 c.chunk) := (blk_cell HX.out 9).trans rfl
          have p10 : wr.cell? ⟨w.heap.size, 10, none⟩ = some (.int .i64 c.loss) := (blk_cell HX.out 10).trans rfl
          have p11 : wr.cell? ⟨w.heap.size, 11, none⟩ = some (.int .i64 c.rep) := (blk_cell HX.out 11).trans rfl
          go_wp2_with fail
          refine (trace_calls n c ⟨A1, c1, A2, c2, A3, c3, A4, c4⟩ s kk wr (sp0 :: sps) (HR.out.below HB.out) HL.out).mono ?_
          rintro e w3 ⟨v0, rfl, ho0, hb0⟩
          obtain ⟨r, cp0, cur, rfl, hr, hbr⟩ := own_some ho0 (by simp)
          have HO0 := Aside0.mk ho0
          have HR0 := Aside0.mk hr
          have HB0 := Aside0.mk hb0
          have hw3 := hb0.size
          obtain ⟨e0, _, _, hr3⟩ := own_cell56 HO0.out 0 0 (by simp) (by omega)
          replace e0 : w3.cell? ⟨r, 0, none⟩ = some (.int .i64 sp0.tr) := by simpa [Sp.cells] using e0
          clear ho0 hr hb0 p0 p1 p2 p3 p4 p5 p6 p7 p8 p9 p10 p11 HL
          have n1 : r ≠ w3.heap.size := by omega
          have hlen : (sp0 :: sps).length = sps.length + 1 := rfl
          go_wp2_with fail
          obtain ⟨wt, rfl⟩ : ∃ wt : World, wt = wr := ⟨_, rfl⟩
          have hbw : Below wt.heap.size wt (w3.alloc (.cells #[.int .i64 sp0.tr, .int .i64 1, .slice (some ⟨r, 0, none⟩) (sps.length + 1) cp0] 51)) := below_alloc HB0.out _
          have HB4 := Aside0.mk hbw
          have HO4 : Aside0 ((w3.alloc (.cells #[.int .i64 sp0.tr, .int .i64 1, .slice (some ⟨r, 0, none⟩) (sps.length + 1) cp0] 51)).ownsRow wt.heap.size 56 14 (.slice (some ⟨r, 0, none⟩) (sps.length + 1) cp0) (sps.length + 1) (spc (mid f (sp0 :: sps) 0))) := ⟨by rw [mid_zero]; exact pw_own_below HO0.out (below_alloc (Below.refl _ _) _)⟩
          have HV4 := Aside0.mk (blk_new w3 (.cells #[.int .i64 sp0.tr, .int .i64 1, .slice (some ⟨r, 0, none⟩) (sps.length + 1) cp0] 51))
          have hbig : sps.length + 1 ≤ 9223372036854775807 := by
            rcases HO0.out.2 with ⟨_, h⟩ | ⟨_, cap, _, _, _, _, h1, h2, _⟩
            · simp at h
            · have h3 : (sp0 :: sps).length = sps.length + 1 := rfl
              have h4 : maxLen ≤ 9223372036854775807 := by decide
              omega
          clear hbw HO0 HR0 HB0 e0 hlen
          obtain ⟨bx, hbx⟩ : ∃ b, b = w3.heap.size := ⟨_, rfl⟩
          rw [← hbx] at HV4 n1 ⊢
          have HBX := Aside0.mk hbx
          clear hbx
          go_loopg [46] (sps.length + 1) (fun gg s46 w4 => ∃ (m : Nat), m ≤ sps.length + 1 ∧ sps.length + 1 - m ≤ gg ∧ s46 = .int .i64 m ∧ Aside0 (w4.ownsRow wt.heap.size 56 14 (.slice (some ⟨r, 0, none⟩) (sps.length + 1) cp0) (sps.length + 1) (spc (mid f (sp0 :: sps) m))) ∧ Aside0 (w4.heap[bx]? = some (.cells #[.int .i64 sp0.tr, .int .i64 1, .slice (some ⟨r, 0, none⟩) (sps.length + 1) cp0] 51 (0, 0))) ∧ Aside0 (Below wt.heap.size wt w4))
          case atStart => exact ⟨0, by omega, by omega, by rfl, HO4, HV4, HB4⟩
          case round =>
            clear HO4 HV4 HB4
            obtain ⟨m, hm, hgm, rfl, HO4, HV4, HB4⟩ := hrel
            have q2 : wr.cell? ⟨bx, 2, none⟩ = some (.slice (some ⟨r, 0, none⟩) (sps.length + 1) cp0) := (blk_cell HV4.out 2).trans rfl
            by_cases hlt : m < sps.length + 1
            · have g1 : decide ((m : Int) < (sps.length : Int) + 1) = true := by simp; omega
              have g2 : (m : Int) < (sps.length : Int) + 1 := by omega
              have g3 : (m : Int) < ((sps.length + 1 : Nat) : Int) := by omega
              have s3 : IntKind.i64.wrap ((m : Int) + 1) = (m : Int) + 1 := IntWalk.i64_in _ (by omega)
              go_wp2_with fail
              have hml : (mid f (sp0 :: sps) m).length = sps.length + 1 := mid_len f (sp0 :: sps) m
              have ho' : wr.ownsRow wt.heap.size 56 14 (.slice (some ⟨r, 0, none⟩) (mid f (sp0 :: sps) m).length cp0) (mid f (sp0 :: sps) m).length (spc (mid f (sp0 :: sps) m)) := by rw [hml]; exact HO4.out
              have hbW := below_step HB.out HB4.out
              have hc := HSH.out wr r cp0 wt.heap.size m (mid f (sp0 :: sps) m) (by omega) hbW hbW HB.out.size HB4.out.size ho'
              rw [mid_get f (sp0 :: sps) m hlt, mid_set f (sp0 :: sps) m hlt, hml] at hc
              refine hc.mono ?_
              rintro e w5 ⟨rfl, ho5, hb5, hk5⟩
              have hbxw : bx < wr.heap.size := blk_lt HV4.out
              have HV5 := Aside0.mk ((hk5 bx hbxw (Ne.symm n1)).trans HV4.out)
              have HO5 := Aside0.mk ho5
              have HB5 := Aside0.mk (HB4.out.trans hb5)
              clear ho5 hb5 hk5 hc ho' hbW hml q2 HO4 HV4 HB4
              go_wp2_with fail
              go_roundg (sps.length + 1 - (m + 1))
              case measure => omega
              case rel => exact ⟨m + 1, by omega, Nat.le_refl _, by go_num, HO5, HV5, HB5⟩
            · obtain rfl : m = sps.length + 1 := by omega
              have g1 : decide (((sps.length + 1 : Nat) : Int) < (sps.length : Int) + 1) = false := by simp
              have q0 : wr.cell? ⟨bx, 0, none⟩ = some (.int .i64 sp0.tr) := (blk_cell HV4.out 0).trans rfl
              have q1 : wr.cell? ⟨bx, 1, none⟩ = some (.int .i64 1) := (blk_cell HV4.out 1).trans rfl
              have hO := HO4.out
              have hlen : mid f (sp0 :: sps) (sps.length + 1) = (sp0 :: sps).map f := mid_end f (sp0 :: sps)
              rw [hlen] at hO
              have HO5 := Aside0.mk (own_base hO HB.out.size)
              have HT5 := Aside0.mk (HT.out.below HB4.out)
              have HO6 := Aside0.mk (pw_own_below HO.out HB4.out)
              have HX5 := Aside0.mk (blk_below HX.out HB4.out)
              have HB5 := Aside0.mk (below_step HB.out HB4.out)
              have hxl : xs.length < 100000 := by
                have h1 := congrArg List.length HM.out
                rw [List.length_map] at h1
                omega
              clear hO hlen HO4 HV4 HB4 HT HO HX HB
              have hbase : w.heap.size ≤ wr.heap.size := HB5.out.size
              have q2 : wr.cell? ⟨bx, 2, none⟩ = some (.slice (some ⟨r, 0, none⟩) (sps.length + 1) cp0) := q2
              go_wp2_with (at_builtin; go_must (refine print_append_cells (w0 := w) w.heap.size rfl _ _ 43 51 _ 3 40 rfl Try.underlying43 info51 rfl (by decide) (by decide) (.slice A xs.length cp) xs.length (trc xs) [.int .i64 sp0.tr, .int .i64 1, .slice (some ⟨r, 0, none⟩) (sps.length + 1) cp0] rfl ?c4 rfl ?c1 HO6.out HB5.out ?c2 ?c3 ?_; (case c1 => intro u hu; simp at hu; rcases hu with rfl | rfl | rfl <;> rfl); (case c4 => show Value.slice (some ⟨wr.heap.size, 0, none⟩) 1 1 = _; first | rfl | simp); (case c2 => first | omega | (simp; omega)); (case c3 => first | omega | (simp; omega)); intro v1 w1 hown1 hb1 hg1 hat1; obtain ⟨A1', cp1, rfl⟩ := own_slice hown1; have HW := Aside0.mk hown1; have HG := Aside0.mk hg1; have HB6 := Aside0.mk hb1; clear hown1 hg1 hb1 hat1))
              have hkeep : ∀ (b : Nat) (cur : Array Value) (ty : TypeId), ty ≠ 51 → wr.heap[b]? = some (Obj.cells cur ty (0, 0)) → w1.heap[b]? = wr.heap[b]? := fun b cur ty hty hb => HG.out.block b (blk_lt hb) (fun e => by
                obtain ⟨cells, hc⟩ := own_typed HO6.out b e.symm
                rw [hb] at hc
                injection hc with hc
                injection hc with _ h2
                exact hty h2)
              have HT7 : Aside0 (TsR w1 w.heap.size (xs ++ [(⟨sp0.tr, (sp0 :: sps).map f⟩, .slice (some ⟨r, 0, none⟩) (sps.length + 1) cp0)])) := ⟨fun x hx => by
                rcases List.mem_append.mp hx with hx | hx
                · exact own_keep (HT5.out x hx) (fun b cur hb => hkeep b cur 56 (by decide) hb)
                · obtain rfl := List.mem_singleton.mp hx
                  have h9 := own_keep HO5.out (fun b cur hb => hkeep b cur 56 (by decide) hb)
                  simpa using h9⟩
              have HX7 := Aside0.mk ((hkeep _ _ 31 (by decide) HX5.out).trans HX5.out)
              have HO7 : Aside0 (w1.ownsRow w.heap.size 51 3 (.slice A1' (xs ++ [((⟨sp0.tr, (sp0 :: sps).map f⟩ : Tr), Value.slice (some ⟨r, 0, none⟩) (sps.length + 1) cp0)]).length cp1) (xs ++ [((⟨sp0.tr, (sp0 :: sps).map f⟩ : Tr), Value.slice (some ⟨r, 0, none⟩) (sps.length + 1) cp0)]).length (trc (xs ++ [((⟨sp0.tr, (sp0 :: sps).map f⟩ : Tr), Value.slice (some ⟨r, 0, none⟩) (sps.length + 1) cp0)]))) := ⟨by
                rw [trc_snoc, List.length_append]
                exact HW.out⟩
              have HM7 : Aside0 ((xs ++ [((⟨sp0.tr, (sp0 :: sps).map f⟩ : Tr), Value.slice (some ⟨r, 0, none⟩) (sps.length + 1) cp0)]).map (·.1) = acc ++ [⟨sp0.tr, (sp0 :: sps).map f⟩]) := ⟨by
                rw [List.map_append, HM.out]
                rfl⟩
              go_roundg i
              case measure => omega
              case rel => exact ⟨i, kk + 1, _, _, cp1, A1', by rw [List.length_append]; rfl, by go_num, Nat.le_refl _, HI1, by omega, HK', HM7, HO7, HT7, HB6, HX7⟩
end Go.Proofs.Ytdadnapfecmmdaa.P
namespace Go.Proofs.Ytdadnapfecmmdaa.P
set_option linter.unusedVariables false
set_option linter.unusedSimpArgs false
open Go.RowKit Go.Proofs.YtdadnapfecmmdaaW.PrintWords Go.Proofs.YtdadnapfecmmdaaW.PrintLast Go.Proofs.YtdadnapfecmmdaaW.PrintMore
open Go.Proofs.Ytdadnapfecmmdaa.Hm
theorem TsOut.base {b b' : Nat} {w' : World} {ts : List Tr} {v : Value} (h : TsOut b w' ts v) (hb : b' ≤ b) : TsOut b' w' ts v := by
  obtain ⟨xs, h1, h2, h3⟩ := h
  exact ⟨xs, h1, own_base h2 hb, fun x hx => own_base (h3 x hx) hb⟩
set_option maxHeartbeats 4000000 in
theorem Traces_ok (n k : Nat) (c : Cfg) (p : CfgAt) (w : World) (ts : List Tr) (hR : CfgR w p c) (hck : ckAll k c = some 0) (h : tracesV n c (shiftSp c.off) = some ts) :
    Calls Try.prog 13 #[c.val p] w fun e w' => ∃ v, e = .returned (.tuple #[v, .int .i64 0]) ∧ TsOut w.heap.size w' ts v ∧ Below w.heap.size w w' := by
  have HR := Aside0.mk hR
  have HCK := Aside0.mk hck
  have HA := Aside0.mk h
  clear hR hck h
  obtain ⟨A1, c1, A2, c2, A3, c3, A4, c4⟩ := p
  go_enter Try.func13, Try.ntmps13
  go_wp2_with fail
  have hb := below_alloc (Below.refl w.heap.size w) (.cells (c.cells ⟨A1, c1, A2, c2, A3, c3, A4, c4⟩) 31)
  have hr1 := HR.out.below hb
  have hn := blk_new w (.cells (c.cells ⟨A1, c1, A2, c2, A3, c3, A4, c4⟩) 31)
  have hsh := traces_shows (w.alloc (.cells (c.cells ⟨A1, c1, A2, c2, A3, c3, A4, c4⟩) 31)) c ⟨A1, c1, A2, c2, A3, c3, A4, c4⟩ w.heap.size hr1
  refine (traces_calls n k c ⟨A1, c1, A2, c2, A3, c3, A4, c4⟩ _ 37 #[pv w.heap.size] (shiftSp c.off) ts hr1 ⟨hsh.1, fun W r cp b j l hj hok hB hbb hbW ho => hsh.2 W r cp b j l hj (blk_below hn hok) hB hbb hbW ho⟩ HCK.out HA.out).mono ?_
  rintro e w1 ⟨v, rfl, ht, hb1⟩
  have HT := Aside0.mk (ht.base hb.size)
  have HB := Aside0.mk (below_step hb hb1)
  clear ht hb1 hsh hn hr1 hb
  go_wp2_with fail
  refine bodyPost_ret (results_tmp2 rfl _ _ _) rfl ?_
  exact ⟨v, by rfl, HT.out, HB.out⟩
end Go.Proofs.Ytdadnapfecmmdaa.P
