/- Own texts of a proof about layer 55's simulate (merged): Cc, Hs, Hg, PF65, PF33, PF10, PF71, PQ1, PF87. -/
import Derived.Test.YtdadnapfecmmdaaYm2
import Derived.Test.YtdadnapfecmmdaaYm3
import Derived.Test.YtdadnapfecmmdaaYm4
import Derived.Deep.DeepMust
namespace Go.Proofs.Ytdadnapfecmmdaa.P
set_option linter.unusedVariables false
set_option linter.unusedSimpArgs false
open Go.RowKit Go.Proofs.YtdadnapfecmmdaaW.PrintWords Go.Proofs.YtdadnapfecmmdaaW.PrintLast Go.Proofs.YtdadnapfecmmdaaW.PrintMore
open Go.Proofs.Ytdadnapfecmmdaa.Hm
set_option maxHeartbeats 16000000 in
set_option maxRecDepth 100000 in
theorem config_calls (p : Plan) (a : PlanAt) (w : World) (hR : PlanR w a p) (hok : PlanOk p) :
    Calls Try.prog 12 #[.agg (p.cells a)] w (CfgOut w (p.cfg chgs47)) := by
  have HR := Aside0.mk hR
  have HOK := Aside0.mk hok
  have l1 : p.parts.length ≤ 9223372036854775807 := hR.r1.2.1
  have l2 : p.steps.length ≤ 9223372036854775807 := hR.r2.2.1
  have l3 : p.trs.length ≤ 9223372036854775807 := hR.r3.2.1
  have b := hok
  obtain ⟨⟨s0, s1⟩, ⟨o00, o01⟩, ⟨o10, o11⟩, ⟨o20, o21⟩, ⟨f0, f1⟩, ⟨g0, g1⟩, ⟨h0, h1⟩, ⟨i0, i1⟩, ⟨j0, j1⟩, ⟨k0, k1⟩, ⟨m0, m1⟩, B1, B2, B3⟩ := b
  clear hR hok B1 B2 B3
  have hB0 : CfgB w (((w.alloc (.cells (p.cells a) 41)).alloc (.cells zeroCfg 31)).alloc (.cells (cfgCells p nilV nilV nilV nilV) 31)) (p.cells a) (cfgCells p nilV nilV nilV nilV) := by
    refine ⟨blk_alloc (blk_alloc (blk_new w _) _) _, ?_, ?_, below_alloc (below_alloc (below_alloc (Below.refl _ _) _) _) _⟩
    · have h := blk_alloc (blk_new (w.alloc (.cells (p.cells a) 41)) (.cells zeroCfg 31)) (.cells (cfgCells p nilV nilV nilV nilV) 31)
      simpa using h
    · have h := blk_new ((w.alloc (.cells (p.cells a) 41)).alloc (.cells zeroCfg 31)) (.cells (cfgCells p nilV nilV nilV nilV) 31)
      simpa using h
  have HB := Aside0.mk hB0
  clear hB0
  go_enter Try.func12, Try.ntmps12
  go_upto_if 63 with fail
  generalize ((w.alloc (.cells (p.cells a) 41)).alloc (.cells zeroCfg 31)).alloc (.cells (cfgCells p nilV nilV nilV nilV) 31) = W1 at HB ⊢
  go_cut [4] (fun s4 wx => ∃ (A : Option Addr) (c : Nat), s4 = .slice A p.ps.length c ∧ Aside0 (Kd.C k87 wx A p.ps.length p.ps) ∧ Aside0 (CfgB w wx (p.cells a) (cfgCells p nilV nilV nilV nilV)) ∧ Aside0 (∀ ad, A = some ad → ad.block ≠ w.heap.size + 2))
  case first =>
    by_cases he : p.parts = []
    · have hb : ((p.parts.length : Int) == 0) = true := beq_iff_eq.mpr (by rw [he]; rfl)
      have e : Aside0 (p.ps = [z87]) := ⟨by unfold Plan.ps; rw [if_pos he]⟩
      clear he
      go_wp2
      go_meet
      exact ⟨some ⟨W1.heap.size, 0, none⟩, 1, by rw [e.out]; rfl, ⟨by rw [e.out]; exact lit87 W1⟩, ⟨HB.out.below (below_alloc (Below.refl _ _) _)⟩, ⟨fun ad h => by injection h with h; subst h; have := blk_lt HB.out.C; dsimp only; omega⟩⟩
    · have hb : ((p.parts.length : Int) == 0) = false := beq_eq_false_iff_ne.mpr (fun h => he (List.length_eq_zero_iff.mp (by omega)))
      have e : Aside0 (p.ps = p.parts) := ⟨by unfold Plan.ps; rw [if_neg he]⟩
      have hpos : 0 < p.parts.length := List.length_pos_iff.mpr he
      clear he
      go_wp2
      go_meet
      exact ⟨a.A1, a.c1, by rw [e.out], ⟨by rw [e.out]; exact Kd.C_below HR.out.r1 HB.out.B⟩, HB, ⟨fun ad h => by obtain ⟨ad', e', h0, _⟩ := cells87 HR.out.r1 0 hpos; rw [h] at e'; injection e' with e'; subst e'; have := World.block_lt_of_cell? w _ h0; simp [Addr.add] at this; omega⟩⟩
  case rest =>
    obtain ⟨AP, cP, rfl, HP, HB1, HA⟩ := hcut
    clear HB
    have hn0 := p.ps_pos
    have hn1 := p.n_pos
    have hn4 : p.n ≤ 4 := by unfold Plan.n; omega
    have hnp : p.n ≤ p.ps.length := by unfold Plan.n; omega
    have lp : p.ps.length ≤ 9223372036854775807 := HP.out.2.1
    go_upto_region 5 with fail
    go_cut [5] (fun s5 wy => s5 = .int .i64 (p.n : Int) ∧ Aside0 (CfgB w wy (p.cells a) (cfgCells p nilV nilV nilV nilV)) ∧ Aside0 (Kd.C k87 wy AP p.ps.length p.ps))
    case first =>
      by_cases h4 : p.ps.length < 4
      · have e : Aside0 ((p.ps.length : Int) = (p.n : Int)) := ⟨by unfold Plan.n; omega⟩
        go_wp2
        all_goals (go_meet; exact ⟨congrArg (Value.int .i64) (by have := e.out; omega), HB1, HP⟩)
      · have e : Aside0 ((4 : Int) = (p.n : Int)) := ⟨by unfold Plan.n; omega⟩
        go_wp2
        all_goals (go_meet; exact ⟨congrArg (Value.int .i64) (by have := e.out; omega), HB1, HP⟩)
    case rest =>
      obtain ⟨rfl, HB2, HP2⟩ := hcut
      clear HB1 HP
      obtain ⟨wy, rfl⟩ : ∃ wy : World, wy = wc := ⟨_, rfl⟩
      go_upto_block 0 with fail
      go_cut [3] (fun s3 wz => s3 = .pointer (some ⟨w.heap.size + 2, 0, none⟩) ∧ ∃ v1, Aside0 (CfgB w wz (p.cells a) (cfgCells p v1 nilV nilV nilV)) ∧ Aside0 (Kd.R k64 64 wz w.heap.size (fun _ => True) v1 p.sv))
      case first =>
        go_wp2_with fail
        go_loopg [6] 4 (fun gg s6 wr => ∃ (i : Nat) (v1 : Value), i ≤ p.n ∧ 4 - i ≤ gg ∧ s6 = .int .i64 (i : Int) ∧ Aside0 (CfgB w wr (p.cells a) (cfgCells p v1 nilV nilV nilV)) ∧ Aside0 (Kd.R k64 64 wr w.heap.size (fun k => wy.heap.size ≤ k) v1 (p.svTo i)) ∧ Aside0 (KeepBut wy wr (w.heap.size + 2) none))
        case atStart => exact ⟨0, nilV, Nat.zero_le _, by omega, by rfl, HB2, ⟨Kd.R_nil _ _ _ _ _⟩, ⟨KeepBut.refl _ _ _⟩⟩
        case round =>
          obtain ⟨i, v1, hi, hgi, rfl, HB3, HS, HKB⟩ := hrel
          obtain ⟨wx0, rfl⟩ : ∃ wx : World, wx = wr := ⟨_, rfl⟩
          by_cases hlt : i < p.n
          · obtain ⟨ad, e, e0, e1, e2, e3, e4⟩ := cells87 HP2.out i (by omega)
            have hne := HA.out ad e
            subst e
            have hx := ok87 (Plan.ps_ok HOK.out) i (by omega)
            have HSN := Aside0.mk (p.svTo_succ i)
            generalize rd_T87 p.ps (i : Int) = x at e0 e1 e2 e3 e4 hx HSN
            obtain ⟨x0, x1, x2, x3, x4⟩ := x
            dsimp only at e0 e1 e2 e3 e4 hx
            obtain ⟨⟨p00, p01⟩, ⟨p10, p11⟩, ⟨p20, p21⟩, ⟨p30, p31⟩, p40, p41⟩ := hx
            have hne1 : (ad.add (i * 5)).block ≠ w.heap.size + 2 := by rw [add_block]; exact hne
            replace e0 := keep_cell HKB.out e0 hne1
            replace e1 := keep_cell HKB.out e1 hne1
            replace e2 := keep_cell HKB.out e2 hne1
            replace e3 := keep_cell HKB.out e3 hne1
            replace e4 := keep_cell HKB.out e4 hne1
            have hlz : (i : Int) < (p.n : Int) := by omega
            have hlp : (i : Int) < (p.ps.length : Int) := by omega
            clear hne hne1
            go_upto_region 10 with fail
            have hx0 := blk_new wx0 (.cells #[.int .u8 x0, .int .u8 x1, .int .u8 x2, .int .u8 x3, .int .u8 x4] 87)
            have hbx0 : Below wx0.heap.size wx0 (wx0.alloc (.cells #[.int .u8 x0, .int .u8 x1, .int .u8 x2, .int .u8 x3, .int .u8 x4] 87)) := below_alloc (Below.refl _ _) _
            clear e0 e1 e2 e3 e4
            generalize wx0.alloc (.cells #[.int .u8 x0, .int .u8 x1, .int .u8 x2, .int .u8 x3, .int .u8 x4] 87) = wx at hx0 hbx0 ⊢
            have HX0 := Aside0.mk hx0
            have HBX := Aside0.mk hbx0
            clear hx0 hbx0
            go_cut [8] (fun s8 wz => ∃ sb : Nat, s8 = .pointer (some ⟨sb, 0, none⟩) ∧ Aside0 (wz.heap[sb]? = some (.cells #[.string (nm4 i), .int .i64 (1 + x0 % 3), .int .i64 (x1 % 20), .int .i64 (x2 % 10), .int .i64 (x3 % 4 * 1000000 / 4), nilV] 64 (0, 0))) ∧ Aside0 (wx.heap.size ≤ sb) ∧ Aside0 (Below wx.heap.size wx wz))
            case first =>
              refine config_part10 i p.n x0 x1 x2 x3 x4 wx0 wx HX0 hn4 hlt p00 p01 p10 p11 p20 p21 p30 p31 _ (fun _ _ N _ _ h => by cases N <;> exact h) _ ⟨fun h => ?_⟩
              go_step
              go_meet
              exact h
            case rest =>
              obtain ⟨sb, rfl, HSB, HGE, HBW⟩ := hcut
              have HX1 := Aside0.mk (blk_below HX0.out HBW.out)
              have HXW := Aside0.mk HX0.out
              clear HX0
              go_upto_block 2 with fail
              go_cut [8] (fun s8 wz => ∃ v : Value, s8 = .pointer (some ⟨sb, 0, none⟩) ∧ Aside0 (wz.heap[sb]? = some (.cells #[.string (nm4 i), .int .i64 (1 + x0 % 3), .int .i64 (x1 % 20), .int .i64 (x2 % 10), .int .i64 (x3 % 4 * 1000000 / 4), v] 64 (0, 0))) ∧ Aside0 (Kd.R Kd.string 9 wz wx.heap.size (fun _ => True) v (callsOf p.n i x4 3)) ∧ Aside0 (Below wx.heap.size wx wz))
              case first =>
                refine config_part11 p i x0 x1 x2 x3 x4 wx0 wx wc sb HSB HGE HBW HX1 HXW hn4 hlt p40 p41 _ (fun _ _ N _ _ h => by cases N <;> exact h) _ ⟨fun h => ?_⟩
                go_step
                go_meet
                exact h
              case rest =>
                obtain ⟨v, rfl, HSB, HRV, HBW⟩ := hcut
                have hbT := below_step HBX.out HBW.out
                have HB4 := Aside0.mk (HB3.out.below hbT)
                have HS4 := Aside0.mk (Kd.R_below HS.out hbT)
                have HK4 := Aside0.mk (HKB.out.trans (KeepBut.of_below hbT (w.heap.size + 2) none) (.inl rfl))
                obtain ⟨A1, c1, e1⟩ := Kd.R_slice HS4.out
                subst e1
                obtain ⟨AV, cV, eV⟩ := Kd.R_slice HRV.out
                subst eV
                have HW0 := Aside0.mk (below_size HBX.out)
                have hlt1 := Aside0.mk (fun k hk => Nat.lt_of_lt_of_le (Kd.R_lt' HS.out k hk) HW0.out)
                have HSL := Aside0.mk (p.svTo_len i)
                have HWY := Aside0.mk (Nat.le_trans (keep_size HKB.out) HW0.out)
                have hokp : Aside0 (∀ k, wx.heap.size ≤ k → wy.heap.size ≤ k ∧ some k ≠ (Value.slice A1 (p.svTo i).length c1).ownBlock) := ⟨fun k hk => ⟨Nat.le_trans HWY.out hk, fun e => by have := hlt1.out k e.symm; omega⟩⟩
                have hrow : Aside0 ((Value.slice A1 (p.svTo i).length c1).ownBlock = none ∨ ∃ b, (Value.slice A1 (p.svTo i).length c1).ownBlock = some b ∧ wy.heap.size ≤ b) := ⟨by
                  cases h : (Value.slice A1 (p.svTo i).length c1).ownBlock with
                  | none => exact .inl rfl
                  | some b => exact .inr ⟨b, rfl, HS4.out.1 b h⟩⟩
                have hfr : Aside0 (∀ k, wc.heap.size ≤ k → wy.heap.size ≤ k) := ⟨fun k hk => Nat.le_trans (keep_size HK4.out) hk⟩
                have hneP := Aside0.mk (Kd.R_ne HS4.out HB4.out.P (by decide))
                have hneR := Aside0.mk (Kd.R_ne HS4.out HB4.out.R (by decide))
                have hneC := Aside0.mk (Kd.R_ne HS4.out HB4.out.C (by decide))
                have hM : Aside0 (k64.M wc w.heap.size (fun k => wx.heap.size ≤ k) (svOf p.n i ⟨x0, x1, x2, x3, x4⟩) [.string (nm4 i), .int .i64 (1 + x0 % 3), .int .i64 (x1 % 20), .int .i64 (x2 % 10), .int .i64 (x3 % 4 * 1000000 / 4), .slice AV (callsOf p.n i x4 3).length cV]) := ⟨k64_mkM wc w.heap.size _ (svOf p.n i ⟨x0, x1, x2, x3, x4⟩) (Kd.R_lower (Kd.R_mono (Kd.R_bound HRV.out) (fun k hk => hk.2.1)) (Nat.le_trans (below_size HB3.out.B) HW0.out))⟩
                clear HB3 HS HKB hbT
                have b1 : wc.cell? ⟨w.heap.size + 1 + 1, 1, none⟩ = some (.slice A1 (p.svTo i).length c1) := (blk_cell HB4.out.C 1).trans rfl
                have q0 : wc.cell? ⟨sb, 0, none⟩ = some (.string (nm4 i)) := (blk_cell HSB.out 0).trans rfl
                have q1 : wc.cell? ⟨sb, 1, none⟩ = some (.int .i64 (1 + x0 % 3)) := (blk_cell HSB.out 1).trans rfl
                have q2 : wc.cell? ⟨sb, 2, none⟩ = some (.int .i64 (x1 % 20)) := (blk_cell HSB.out 2).trans rfl
                have q3 : wc.cell? ⟨sb, 3, none⟩ = some (.int .i64 (x2 % 10)) := (blk_cell HSB.out 3).trans rfl
                have q4 : wc.cell? ⟨sb, 4, none⟩ = some (.int .i64 (x3 % 4 * 1000000 / 4)) := (blk_cell HSB.out 4).trans rfl
                have q5 : wc.cell? ⟨sb, 5, none⟩ = some (.slice AV (callsOf p.n i x4 3).length cV) := (blk_cell HSB.out 5).trans rfl
                generalize svOf p.n i ⟨x0, x1, x2, x3, x4⟩ = sx at HSN hM
                generalize (callsOf p.n i x4 3).length = nV at q5 hM
                generalize p.svTo i = sl at b1 HB4 HS4 hlt1 hokp hrow hneP hneR hneC HSL HSN
                have hlen : Aside0 ((sl.length + 1) * 72 ≤ 140737488355328) := ⟨by rw [HSL.out]; have := hlt; have := hn4; omega⟩
                clear HRV HSB hlt1
                go_wp2_with (at_builtin; refine Kd.R_append k64 (w0 := w) w.heap.size rfl _ _ 24 64 _ 72 rfl Try.underlying24 info64 rfl (by decide) (by decide) (.slice A1 sl.length c1) sl sx [.string (nm4 i), .int .i64 (1 + x0 % 3), .int .i64 (x1 % 20), .int .i64 (x2 % 10), .int .i64 (x3 % 4 * 1000000 / 4), .slice AV nV cV] (fun k => wy.heap.size ≤ k) (fun k => wx.heap.size ≤ k) rfl ?c4 ?c5 ?c6 ?c7 ?c8 ?c9 ?c10 ?c3 ?_; (case c4 => rfl); (case c5 => with_reducible exact hM.out); (case c6 => exact hokp.out); (case c7 => exact hfr.out); (case c8 => exact HS4.out); (case c9 => exact HB4.out.B); (case c10 => exact HB4.out.B.size); (case c3 => exact hlen.out); intro v7 w7 hr7 hb7 hg7 ho7; obtain ⟨A7, c7, e7⟩ := Kd.R_slice hr7; rw [List.length_append, List.length_singleton] at e7; subst e7; have HR7 := Aside0.mk hr7; have HB7 := Aside0.mk (HB4.out.grown hg7 hb7 hneP.out hneR.out hneC.out); have HK7 := Aside0.mk (HK4.out.trans (KeepBut.of_grown hg7 (w.heap.size + 2)) hrow.out); have y1 : w7.cell? ⟨w.heap.size + 1 + 1, 1, none⟩ = some (.slice A1 sl.length c1) := (blk_cell HB7.out.C 1).trans rfl; have y2 : w7.frozen? ⟨w.heap.size + 1 + 1, 1, none⟩ = false := blk_frozen HB7.out.C 1; clear hr7 hb7 hg7 ho7 b1 q0 q1 q2 q3 q4 q5)
                go_roundg (4 - (i + 1))
                case measure => omega
                case rel => exact ⟨i + 1, _, by omega, by omega, by go_num, ⟨HB7.out.set 1 _⟩, ⟨by rw [HSN.out]; exact Kd.R_set HR7.out HB7.out.C (by decide) 1 _⟩, ⟨HK7.out.set_ 1 _⟩⟩
          · obtain rfl : i = p.n := by omega
            have hz : decide (p.n < p.n) = false := by simp
            have hz2 : decide ((p.n : Int) < (p.n : Int)) = false := by simp
            clear hlt
            go_wp2
            go_meet
            exact ⟨rfl, v1, HB3, ⟨Kd.R_mono HS.out (fun _ _ => trivial)⟩⟩
      case rest =>
        obtain ⟨rfl, v1, HB3, HS⟩ := hcut
        rename_i hK
        exact hK _ _ (config_part2 p a w _ v1 HR HOK HB3 HS)
end Go.Proofs.Ytdadnapfecmmdaa.P
namespace Go.Proofs.Ytdadnapfecmmdaa.P
set_option linter.unusedVariables false
set_option linter.unusedSimpArgs false
open Go.RowKit Go.Proofs.YtdadnapfecmmdaaW.PrintWords Go.Proofs.YtdadnapfecmmdaaW.PrintLast Go.Proofs.YtdadnapfecmmdaaW.PrintMore
structure Sp where
  tr : Int
  id : Int
  par : Int
  rev : Int
  clk : Int
  kind : Int
  svc : ByteArray
  ver : ByteArray
  op : ByteArray
  st : Int
  en : Int
  err : Bool
def Sp.cells (s : Sp) : List Value := [.int .i64 s.tr, .int .i64 s.id, .int .i64 s.par, .int .i64 s.rev, .int .i64 s.clk, .int .i64 s.kind, .string s.svc, .string s.ver, .string s.op, .int .i64 s.st, .int .i64 s.en, .bool s.err, .slice none 0 0, .slice none 0 0]
theorem Sp.cells_len (s : Sp) : s.cells.length = 14 := rfl
def spc : List Sp → List Value
  | [] => []
  | s :: r => s.cells ++ spc r
theorem spc_len (l : List Sp) : (spc l).length = l.length * 14 := by
  induction l with
  | nil => rfl
  | cons s r ih => simp only [spc, List.length_append, Sp.cells_len, ih, List.length_cons]; omega
theorem spc_snoc (l : List Sp) (s : Sp) : spc (l ++ [s]) = spc l ++ s.cells := by
  induction l with
  | nil => simp [spc]
  | cons a r ih => simp [spc, ih]
theorem spc_get (l : List Sp) (j i : Nat) (hj : j < l.length) (hi : i < 14) : (spc l)[j * 14 + i]? = (l[j].cells)[i]? := by
  induction l generalizing j with
  | nil => simp at hj
  | cons a r ih =>
    cases j with
    | zero =>
      simp only [spc, Nat.zero_mul, Nat.zero_add, List.getElem_cons_zero]
      rw [List.getElem?_append_left (by rw [Sp.cells_len]; exact hi)]
    | succ j =>
      simp only [spc, List.getElem_cons_succ]
      rw [List.getElem?_append_right (by rw [Sp.cells_len]; omega), Sp.cells_len, show (j + 1) * 14 + i - 14 = j * 14 + i from by omega]
      exact ih j (by simpa using hj)
theorem spc_set (l : List Sp) (j i : Nat) (u : Value) (s : Sp) (hj : j < l.length) (hi : i < 14) (hs : (l[j].cells).set i u = s.cells) : (spc l).set (j * 14 + i) u = spc (l.set j s) := by
  induction l generalizing j with
  | nil => simp at hj
  | cons a r ih =>
    cases j with
    | zero =>
      simp only [spc, Nat.zero_mul, Nat.zero_add, List.set_cons_zero]
      rw [List.set_append_left _ _ (by rw [Sp.cells_len]; exact hi)]
      simp only [List.getElem_cons_zero] at hs
      rw [hs]
    | succ j =>
      simp only [spc, List.set_cons_succ]
      rw [List.set_append_right _ _ (by rw [Sp.cells_len]; omega), Sp.cells_len, show (j + 1) * 14 + i - 14 = j * 14 + i from by omega]
      rw [ih j (by simpa using hj) (by simpa using hs)]
def SpR (W : World) (g base : Nat) (l : List Sp) : Prop := ∃ v, W.heap[g]? = some (.cells #[v] 49 (0, 0)) ∧ W.ownsRow base 56 14 v l.length (spc l)
def KeepT (W W' : World) (g : Nat) : Prop := W.heap.size ≤ W'.heap.size ∧ ∀ i, i < W.heap.size → i ≠ g → (∀ cs fr, W.heap[i]? ≠ some (.cells cs 56 fr)) → W'.heap[i]? = W.heap[i]?
theorem KeepT.refl (W : World) (g : Nat) : KeepT W W g := ⟨Nat.le_refl _, fun _ _ _ _ => rfl⟩
theorem KeepT.trans {W W1 W2 : World} {g : Nat} (h : KeepT W W1 g) (k : KeepT W1 W2 g) : KeepT W W2 g :=
  ⟨Nat.le_trans h.1 k.1, fun i hi hg hn => by
    have h1 := h.2 i hi hg hn
    rw [k.2 i (Nat.lt_of_lt_of_le hi h.1) hg (fun cs fr => by rw [h1]; exact hn cs fr), h1]⟩
theorem KeepT.of_below {W W1 : World} (h : Below W.heap.size W W1) (g : Nat) : KeepT W W1 g := ⟨h.size, fun i hi _ _ => h.block i hi⟩
theorem KeepT.blk {W W' : World} {g b : Nat} {o : Obj} (h : KeepT W W' g) (hb : W.heap[b]? = some o) (hg : b ≠ g) (ho : ∀ cs fr, o ≠ .cells cs 56 fr) : W'.heap[b]? = some o :=
  (h.2 b (blk_lt hb) hg (fun cs fr => by rw [hb]; intro e; exact ho cs fr (Option.some.inj e))).trans hb
theorem KeepT.cellsBlk {W W' : World} {g b : Nat} {cs : Array Value} {t : TypeId} (h : KeepT W W' g) (hb : W.heap[b]? = some (.cells cs t (0, 0))) (hg : b ≠ g) (ht : t ≠ 56) : W'.heap[b]? = some (.cells cs t (0, 0)) :=
  h.blk hb hg (fun _ _ e => by injection e with _ e2; exact ht e2)
theorem KeepT.grown {W W' : World} {g : Nat} {v : Value} {base n : Nat} {xs : List Value} (hv : W.ownsRow base 56 14 v n xs) (h : W.grownBy W' v.ownBlock) : KeepT W W' g :=
  ⟨h.size, fun i hi _ hn => h.block i hi (fun e => by
    obtain ⟨cells, hc⟩ := own_typed hv i e.symm
    exact hn cells (0, 0) hc)⟩
abbrev svCells (x : S64) (A5 : Option Addr) (c5 : Nat) : Array Value := #[.string x.f0, .int .i64 x.f1, .int .i64 x.f2, .int .i64 x.f3, .int .i64 x.f4, .slice A5 x.f5.length c5]
set_option maxHeartbeats 4000000 in
set_option maxRecDepth 100000 in
theorem begin_calls (W w0 : World) (bsp bt base : Nat) (t : Int) (l : List Sp) (x : S64) (A5 : Option Addr) (c5 : Nat) (parent kind at_ : Int) (op ver : ByteArray)
    (hT : W.heap[bt]? = some (.cells #[.int .i64 t] 3 (0, 0))) (hS : SpR W bsp base l) (hbb : base ≤ bsp) (hlen : l.length < 1000) (hB : Below base w0 W) (hbase : base ≤ W.heap.size) :
    Calls Try.prog 85 #[.agg (svCells x A5 c5), .int .i64 parent, .int .i64 kind, .int .i64 at_, .string op, .string ver, .pointer (some ⟨bsp, 0, none⟩), .pointer (some ⟨bt, 0, none⟩)] W fun e w' =>
      e = .returned (.int .i64 ((l.length : Int) + 1)) ∧ SpR w' bsp base (l ++ [⟨t, (l.length : Int) + 1, parent, 0, x.f1, kind, x.f0, ver, op, at_, 0, false⟩]) ∧ KeepT W w' bsp ∧ Below base w0 w' := by
  obtain ⟨v, hv, hown⟩ := hS
  obtain ⟨A, cp, rfl⟩ := own_slice hown
  have qT : W.cell? ⟨bt, 0, none⟩ = some (.int .i64 t) := (blk_cell hT 0).trans rfl
  have qS : W.cell? ⟨bsp, 0, none⟩ = some (.slice A l.length cp) := (blk_cell hv 0).trans rfl
  have hlt1 := blk_lt hT
  have hlt2 := blk_lt hv
  have HV := Aside0.mk hv
  have HO := Aside0.mk hown
  have HB := Aside0.mk hB
  have HT := Aside0.mk hT
  have hne1 : bt ≠ W.heap.size := by omega
  have hne2 : bsp ≠ W.heap.size := by omega
  clear hv hown hB hT
  obtain ⟨f0, f1, f2, f3, f4, f5⟩ := x
  unfold svCells
  dsimp only
  generalize f5.length = n5
  have hneq : ∀ _ : Unit, some bsp ≠ (Value.slice A l.length cp).ownBlock := fun _ => own_ne HO.out HV.out (by decide)
  have hvb : ∀ o : Obj, (W.alloc o).heap[bsp]? = some (.cells #[.slice A l.length cp] 49 (0, 0)) := fun o => blk_alloc HV.out o
  have EO := Aside0.mk (spc_snoc l ⟨t, (l.length : Int) + 1, parent, 0, f1, kind, f0, ver, op, at_, 0, false⟩)
  go_enter Try.func85, Try.ntmps85
  go_wp2_with (at_builtin; go_must (refine print_append_cells (w0 := w0) base rfl _ _ 49 56 _ 14 168 rfl Try.underlying49 info56 rfl (by decide) (by decide) (.slice A l.length cp) l.length (spc l) [.int .i64 t, .int .i64 ((l.length : Int) + 1), .int .i64 parent, .int .i64 0, .int .i64 f1, .int .i64 kind, .string f0, .string ver, .string op, .int .i64 at_, .int .i64 0, .bool false, .slice none 0 0, .slice none 0 0] rfl ?c4 rfl ?c1 (HO.out.alloc _) (HB.out.alloc hbase _) ?c2 ?c3 ?_; (case c1 => intro u hu; simp at hu; rcases hu with rfl | rfl | rfl | rfl | rfl | rfl | rfl | rfl | rfl | rfl | rfl | rfl | rfl | rfl <;> rfl); (case c4 => show Value.slice (some ⟨W.heap.size + 1, 0, none⟩) 1 1 = _; simp); (case c2 => simp; omega); (case c3 => omega); intro v1 w1 hown1 hb1 hg1 hat1; obtain ⟨A1, cp1, rfl⟩ := own_slice hown1; have HW := Aside0.mk hown1; have HG := Aside0.mk hg1; have HB1 := Aside0.mk hb1; have hvv : w1.heap[bsp]? = some (.cells #[.slice A l.length cp] 49 (0, 0)) := hg1.block bsp (by simp; omega) (hneq ()) |>.trans (hvb _); have qv : w1.cell? ⟨bsp, 0, none⟩ = some (.slice A l.length cp) := (blk_cell hvv 0).trans rfl; have fv := blk_frozen hvv 0; have HVV := Aside0.mk hvv; clear hown1 hg1 hb1 hat1 hvv))
  go_ret
  have hne : some bsp ≠ (Value.slice A1 (l.length + 1) cp1).ownBlock := own_ne HW.out HVV.out (by decide)
  refine ⟨by rfl, ⟨.slice A1 (l.length + 1) cp1, ?_, ?_⟩, ?_, ?_⟩
  · have h := blk_set HVV.out 0 (.slice A1 (l.length + 1) cp1)
    simpa using h
  · rw [EO.out, List.length_append, List.length_singleton]
    exact own_setCell HW.out hne _
  · refine ((KeepT.of_below (below_alloc (Below.refl _ _) _) bsp).trans (KeepT.grown (HO.out.alloc _) HG.out)).trans ⟨by simp, fun i _ hi _ => Below.heap_setCell _ _ _ i hi⟩
  · exact HB1.out.setCell hbb _
end Go.Proofs.Ytdadnapfecmmdaa.P
namespace Go.Proofs.Ytdadnapfecmmdaa.P
open Go.RowKit Go.Proofs.YtdadnapfecmmdaaW.PrintWords Go.Proofs.YtdadnapfecmmdaaW.PrintLast Go.Proofs.YtdadnapfecmmdaaW.PrintMore
attribute [local go_sem] max2_int min2_int max_two min_two max_three min_three max_four min_four   -- for this text's walks alone
set_option linter.unusedVariables false
set_option linter.unusedSimpArgs false
def checksum_Word.f (a0 : Int) (a1 : Int) : Option (Int) := some (Go.bits .xor .u64 (IntKind.u64.wrap ((Go.bits .xor .u64 (IntKind.u64.wrap ((Go.bits .xor .u64 (IntKind.u64.wrap ((IntKind.u64.wrap (a0 * 11400714819323198485)) + a1)) ((IntKind.u64.wrap ((IntKind.u64.wrap (a0 * 11400714819323198485)) + a1)) / 1073741824)) * 13787848793156543929)) ((IntKind.u64.wrap ((Go.bits .xor .u64 (IntKind.u64.wrap ((IntKind.u64.wrap (a0 * 11400714819323198485)) + a1)) ((IntKind.u64.wrap ((IntKind.u64.wrap (a0 * 11400714819323198485)) + a1)) / 1073741824)) * 13787848793156543929)) / 134217728)) * 10723151780598845931)) ((IntKind.u64.wrap ((Go.bits .xor .u64 (IntKind.u64.wrap ((Go.bits .xor .u64 (IntKind.u64.wrap ((IntKind.u64.wrap (a0 * 11400714819323198485)) + a1)) ((IntKind.u64.wrap ((IntKind.u64.wrap (a0 * 11400714819323198485)) + a1)) / 1073741824)) * 13787848793156543929)) ((IntKind.u64.wrap ((Go.bits .xor .u64 (IntKind.u64.wrap ((IntKind.u64.wrap (a0 * 11400714819323198485)) + a1)) ((IntKind.u64.wrap ((IntKind.u64.wrap (a0 * 11400714819323198485)) + a1)) / 1073741824)) * 13787848793156543929)) / 134217728)) * 10723151780598845931)) / 2147483648))
set_option maxHeartbeats 8000000 in
set_option maxRecDepth 100000 in
theorem checksum_Word.calls (a0 : Int) (a1 : Int) (r : Int) (w : World) (h : checksum_Word.f a0 a1 = some r) :
    Calls Try.prog 65 #[.int .u64 a0, .int .u64 a1] w fun e w' => e = .returned (.int .u64 r) ∧ Drawn0 w w' := by
  have H : (some (Go.bits .xor .u64 (IntKind.u64.wrap ((Go.bits .xor .u64 (IntKind.u64.wrap ((Go.bits .xor .u64 (IntKind.u64.wrap ((IntKind.u64.wrap (a0 * 11400714819323198485)) + a1)) ((IntKind.u64.wrap ((IntKind.u64.wrap (a0 * 11400714819323198485)) + a1)) / 1073741824)) * 13787848793156543929)) ((IntKind.u64.wrap ((Go.bits .xor .u64 (IntKind.u64.wrap ((IntKind.u64.wrap (a0 * 11400714819323198485)) + a1)) ((IntKind.u64.wrap ((IntKind.u64.wrap (a0 * 11400714819323198485)) + a1)) / 1073741824)) * 13787848793156543929)) / 134217728)) * 10723151780598845931)) ((IntKind.u64.wrap ((Go.bits .xor .u64 (IntKind.u64.wrap ((Go.bits .xor .u64 (IntKind.u64.wrap ((IntKind.u64.wrap (a0 * 11400714819323198485)) + a1)) ((IntKind.u64.wrap ((IntKind.u64.wrap (a0 * 11400714819323198485)) + a1)) / 1073741824)) * 13787848793156543929)) ((IntKind.u64.wrap ((Go.bits .xor .u64 (IntKind.u64.wrap ((IntKind.u64.wrap (a0 * 11400714819323198485)) + a1)) ((IntKind.u64.wrap ((IntKind.u64.wrap (a0 * 11400714819323198485)) + a1)) / 1073741824)) * 13787848793156543929)) / 134217728)) * 10723151780598845931)) / 2147483648))) = some r := h
  clear h
  obtain rfl := Option.some.inj H
  go_enter Try.func65, Try.ntmps65
  go_wp2
  go_ret
  exact ⟨by first | rfl | (simp; done) | (simp [*]; done), by repeat (first | exact Drawn0.refl _ | apply Drawn0.step)⟩
def checksum_Mix.f (a0 : Int) (a1 : Int) : Option (Int) := (checksum_Word.f (IntKind.u64.wrap (a0)) (IntKind.u64.wrap (a1))).bind fun t111 => (some (wrap64 (t111 / 4)))
set_option maxHeartbeats 8000000 in
set_option maxRecDepth 100000 in
theorem checksum_Mix.calls (a0 : Int) (a1 : Int) (r : Int) (w : World) (h : checksum_Mix.f a0 a1 = some r) :
    Calls Try.prog 33 #[.int .i64 a0, .int .i64 a1] w fun e w' => e = .returned (.int .i64 r) ∧ Drawn0 w w' := by
  have H : ((checksum_Word.f (IntKind.u64.wrap (a0)) (IntKind.u64.wrap (a1))).bind fun t111 => (some (wrap64 (t111 / 4)))) = some r := h
  clear h
  replace H := Option.bind_eq_some_iff.mp H
  obtain ⟨t111, A30, H⟩ := H
  replace H : (some (wrap64 (t111 / 4))) = some r := H
  have A3 := Aside0.mk A30
  clear A30
  obtain rfl := Option.some.inj H
  go_enter Try.func33, Try.ntmps33
  go_wp2_with (first | ((with_reducible refine gate_callee (f := 65) rfl ?_); refine goesL_ (some 9) rfl rfl Try.func65 (by kernel_rfl) rfl #[.int .u64 (IntKind.u64.wrap (a0)), .int .u64 (IntKind.u64.wrap (a1))] rfl (by (try simp only [List.map_toArray, List.map_cons, List.map_nil]); first | done | rfl | (simp only [List.length_drop, List.length_take]; rfl)) ?_; (with_reducible refine (checksum_Word.calls (IntKind.u64.wrap (a0)) (IntKind.u64.wrap (a1)) t111 _ A3.out).mono ?_); rintro e w' ⟨rfl, ⟨nd, rfl⟩⟩; refine ⟨_, rfl, ?_⟩))
  go_ret
  exact ⟨by first | rfl | (simp; done) | (simp [*]; done), by repeat (first | exact Drawn0.refl _ | apply Drawn0.step)⟩
def simulate_Roll.f (a0_0 : Int) (l0_1 : List (S64)) (l0_2 : List (S91)) (l0_3 : List (S100)) (l0_4 : List (S61)) (a0_5 : Int) (a0_6 : Int) (a0_7 : Int) (a0_8 : Int) (a0_9 : Int) (a0_10 : Int) (a0_11 : Int) (a1 : Int) (a2 : Int) (a3 : Int) : Option (Int) := (checksum_Mix.f a0_0 a1).bind fun t113 => ((checksum_Mix.f t113 a2).bind fun t114 => ((checksum_Mix.f t114 a3).bind fun t115 => (some t115)))
set_option maxHeartbeats 8000000 in
set_option maxRecDepth 100000 in
theorem simulate_Roll.calls (a0_0 : Int) (A0_1 : Option Addr) (c0_1 : Nat) (l0_1 : List (S64)) (A0_2 : Option Addr) (c0_2 : Nat) (l0_2 : List (S91)) (A0_3 : Option Addr) (c0_3 : Nat) (l0_3 : List (S100)) (A0_4 : Option Addr) (c0_4 : Nat) (l0_4 : List (S61)) (a0_5 : Int) (a0_6 : Int) (a0_7 : Int) (a0_8 : Int) (a0_9 : Int) (a0_10 : Int) (a0_11 : Int) (a1 : Int) (a2 : Int) (a3 : Int) (r : Int) (w : World) (hr0_1 : Kd.C k64 w A0_1 l0_1.length l0_1) (hc0_1 : l0_1.length ≤ c0_1) (hr0_2 : Kd.C k91 w A0_2 l0_2.length l0_2) (hc0_2 : l0_2.length ≤ c0_2) (hr0_3 : Kd.C k100 w A0_3 l0_3.length l0_3) (hc0_3 : l0_3.length ≤ c0_3) (hr0_4 : Kd.C k61 w A0_4 l0_4.length l0_4) (hc0_4 : l0_4.length ≤ c0_4) (h : simulate_Roll.f a0_0 l0_1 l0_2 l0_3 l0_4 a0_5 a0_6 a0_7 a0_8 a0_9 a0_10 a0_11 a1 a2 a3 = some r) :
    Calls Try.prog 10 #[.agg #[.int .i64 a0_0, .slice A0_1 l0_1.length c0_1, .slice A0_2 l0_2.length c0_2, .slice A0_3 l0_3.length c0_3, .slice A0_4 l0_4.length c0_4, .int .i64 a0_5, .int .i64 a0_6, .int .i64 a0_7, .int .i64 a0_8, .int .i64 a0_9, .int .i64 a0_10, .int .i64 a0_11], .int .i64 a1, .int .i64 a2, .int .i64 a3] w fun e w' => e = .returned (.int .i64 r) ∧ Below w.heap.size w w' := by
  have hu31 := Try.underlying31
  have HR0_1 := Aside0.mk hr0_1
  have HC0_1 := Aside0.mk hc0_1
  clear hr0_1 hc0_1
  have HR0_2 := Aside0.mk hr0_2
  have HC0_2 := Aside0.mk hc0_2
  clear hr0_2 hc0_2
  have HR0_3 := Aside0.mk hr0_3
  have HC0_3 := Aside0.mk hc0_3
  clear hr0_3 hc0_3
  have HR0_4 := Aside0.mk hr0_4
  have HC0_4 := Aside0.mk hc0_4
  clear hr0_4 hc0_4
  have HB := Aside0.mk (Below.refl w.heap.size w)
  have H : ((checksum_Mix.f a0_0 a1).bind fun t113 => ((checksum_Mix.f t113 a2).bind fun t114 => ((checksum_Mix.f t114 a3).bind fun t115 => (some t115)))) = some r := h
  clear h
  replace H := Option.bind_eq_some_iff.mp H
  obtain ⟨t113, A50, H⟩ := H
  replace H : ((checksum_Mix.f t113 a2).bind fun t114 => ((checksum_Mix.f t114 a3).bind fun t115 => (some t115))) = some r := H
  have A5 := Aside0.mk A50
  clear A50
  replace H := Option.bind_eq_some_iff.mp H
  obtain ⟨t114, A60, H⟩ := H
  replace H : ((checksum_Mix.f t114 a3).bind fun t115 => (some t115)) = some r := H
  have A6 := Aside0.mk A60
  clear A60
  replace H := Option.bind_eq_some_iff.mp H
  obtain ⟨t115, A70, H⟩ := H
  replace H : (some t115) = some r := H
  have A7 := Aside0.mk A70
  clear A70
  obtain rfl := Option.some.inj H
  go_enter Try.func10, Try.ntmps10
  go_wp2_with (first | ((with_reducible refine gate_dst (N := 4) rfl ?_); refine box_event ?hg (N := 4) ?hd (cs := #[.int .i64 a0_0, .slice A0_1 l0_1.length c0_1, .slice A0_2 l0_2.length c0_2, .slice A0_3 l0_3.length c0_3, .slice A0_4 l0_4.length c0_4, .int .i64 a0_5, .int .i64 a0_6, .int .i64 a0_7, .int .i64 a0_8, .int .i64 a0_9, .int .i64 a0_10, .int .i64 a0_11]) (t := 31) ?hr ?_; (case hd => rfl); (case hg => rfl); (case hr => first | (go_simp; done) | (go_simp; rfl)); intro gb112 hg w8 hbox hb; have n0_ := Aside0.mk (below_step (by repeat (first | (with_reducible first | exact HB.out | apply below_alloc | apply pw_below_drewN | apply below_drew1) | exact HB.out)) hb); have n1_ := Aside0.mk (hbox); have n2_ := Aside0.mk ((by rw [hg]; exact (below_size (by repeat (first | (with_reducible first | exact HB.out | apply below_alloc | apply pw_below_drewN | apply below_drew1) | exact HB.out))) : w.heap.size ≤ gb112)); have n3_ := Aside0.mk ((by rw [hg]; exact (below_size (by repeat (first | (with_reducible first | exact HB.out | apply below_alloc | apply pw_below_drewN | apply below_drew1) | exact HB.out))) : w.heap.size ≤ gb112)); clear HB; have HB := n0_; have BK112 := n1_; have GW112 := n2_; have GE112 := n3_; clear n0_ n1_ n2_ n3_; clear hb hbox hg; have hcz9_0 : w8.cell? ⟨gb112, 0, none⟩ = some (.int .i64 a0_0) := (blk_cell BK112.out 0).trans rfl; have hcz9_1 : w8.cell? ⟨gb112, 1, none⟩ = some (.slice A0_1 l0_1.length c0_1) := (blk_cell BK112.out 1).trans rfl; have hcz9_2 : w8.cell? ⟨gb112, 2, none⟩ = some (.slice A0_2 l0_2.length c0_2) := (blk_cell BK112.out 2).trans rfl; have hcz9_3 : w8.cell? ⟨gb112, 3, none⟩ = some (.slice A0_3 l0_3.length c0_3) := (blk_cell BK112.out 3).trans rfl; have hcz9_4 : w8.cell? ⟨gb112, 4, none⟩ = some (.slice A0_4 l0_4.length c0_4) := (blk_cell BK112.out 4).trans rfl; have hcz9_5 : w8.cell? ⟨gb112, 5, none⟩ = some (.int .i64 a0_5) := (blk_cell BK112.out 5).trans rfl; have hcz9_6 : w8.cell? ⟨gb112, 6, none⟩ = some (.int .i64 a0_6) := (blk_cell BK112.out 6).trans rfl; have hcz9_7 : w8.cell? ⟨gb112, 7, none⟩ = some (.int .i64 a0_7) := (blk_cell BK112.out 7).trans rfl; have hcz9_8 : w8.cell? ⟨gb112, 8, none⟩ = some (.int .i64 a0_8) := (blk_cell BK112.out 8).trans rfl; have hcz9_9 : w8.cell? ⟨gb112, 9, none⟩ = some (.int .i64 a0_9) := (blk_cell BK112.out 9).trans rfl; have hcz9_10 : w8.cell? ⟨gb112, 10, none⟩ = some (.int .i64 a0_10) := (blk_cell BK112.out 10).trans rfl; have hcz9_11 : w8.cell? ⟨gb112, 11, none⟩ = some (.int .i64 a0_11) := (blk_cell BK112.out 11).trans rfl; have hfz9_0 := blk_frozen BK112.out 0; have hfz9_1 := blk_frozen BK112.out 1; have hfz9_2 := blk_frozen BK112.out 2; have hfz9_3 := blk_frozen BK112.out 3; have hfz9_4 := blk_frozen BK112.out 4; have hfz9_5 := blk_frozen BK112.out 5; have hfz9_6 := blk_frozen BK112.out 6; have hfz9_7 := blk_frozen BK112.out 7; have hfz9_8 := blk_frozen BK112.out 8; have hfz9_9 := blk_frozen BK112.out 9; have hfz9_10 := blk_frozen BK112.out 10; have hfz9_11 := blk_frozen BK112.out 11) | ((with_reducible refine gate_callee (f := 33) rfl ?_); refine goesL_ (some 12) rfl rfl Try.func33 (by kernel_rfl) rfl #[.int .i64 a0_0, .int .i64 a1] rfl (by (try simp only [List.map_toArray, List.map_cons, List.map_nil]); first | done | rfl | (simp only [List.length_drop, List.length_take]; rfl)) ?_; (with_reducible refine (checksum_Mix.calls a0_0 a1 t113 _ A5.out).mono ?_); rintro e w' ⟨rfl, ⟨nd, rfl⟩⟩; refine ⟨_, rfl, ?_⟩) | ((with_reducible refine gate_callee (f := 33) rfl ?_); refine goesL_ (some 14) rfl rfl Try.func33 (by kernel_rfl) rfl #[.int .i64 t113, .int .i64 a2] rfl (by (try simp only [List.map_toArray, List.map_cons, List.map_nil]); first | done | rfl | (simp only [List.length_drop, List.length_take]; rfl)) ?_; (with_reducible refine (checksum_Mix.calls t113 a2 t114 _ A6.out).mono ?_); rintro e w' ⟨rfl, ⟨nd, rfl⟩⟩; refine ⟨_, rfl, ?_⟩) | ((with_reducible refine gate_callee (f := 33) rfl ?_); refine goesL_ (some 16) rfl rfl Try.func33 (by kernel_rfl) rfl #[.int .i64 t114, .int .i64 a3] rfl (by (try simp only [List.map_toArray, List.map_cons, List.map_nil]); first | done | rfl | (simp only [List.length_drop, List.length_take]; rfl)) ?_; (with_reducible refine (checksum_Mix.calls t114 a3 t115 _ A7.out).mono ?_); rintro e w' ⟨rfl, ⟨nd, rfl⟩⟩; refine ⟨_, rfl, ?_⟩))
  go_ret
  exact ⟨by first | rfl | (simp [errW_none, errW_some] <;> rfl) | (simp [*, errW_none, errW_some] <;> rfl), by repeat (first | (with_reducible first | exact HB.out | apply below_alloc | apply pw_below_drewN | apply below_drew1 | refine below_set ?_ GE112.out) | exact HB.out)⟩
def deployment_has.f (a0_0 : Int) (a0_1 : Int) (a1 : Int) : Option (Bool) := if a0_0 ≤ a1 then (some (decide (a1 < a0_1))) else (some false)
set_option maxHeartbeats 8000000 in
set_option maxRecDepth 100000 in
theorem deployment_has.calls (a0_0 : Int) (a0_1 : Int) (a1 : Int) (r : Bool) (w : World) (h : deployment_has.f a0_0 a0_1 a1 = some r) :
    Calls Try.prog 71 #[.agg #[.int .i64 a0_0, .int .i64 a0_1], .int .i64 a1] w fun e w' => e = .returned (.bool r) ∧ Below w.heap.size w w' := by
  have hu29 := Try.underlying29
  have HB := Aside0.mk (Below.refl w.heap.size w)
  have H : (if a0_0 ≤ a1 then (some (decide (a1 < a0_1))) else (some false)) = some r := h
  clear h
  by_cases c3 : a0_0 ≤ a1
  · rw [if_pos c3] at H
    have c3b0 : decide (a0_0 ≤ a1) = true := decide_eq_true c3
    clear c3
    obtain rfl := Option.some.inj H
    go_enter Try.func71, Try.ntmps71
    go_wp2_with (first | ((with_reducible refine gate_dst (N := 2) rfl ?_); refine box_event ?hg (N := 2) ?hd (cs := #[.int .i64 a0_0, .int .i64 a0_1]) (t := 29) ?hr ?_; (case hd => rfl); (case hg => rfl); (case hr => first | (go_simp; done) | (go_simp; rfl)); intro gb139 hg w4 hbox hb; have n0_ := Aside0.mk (below_step (by repeat (first | (with_reducible first | exact HB.out | apply below_alloc | apply pw_below_drewN | apply below_drew1) | exact HB.out)) hb); have n1_ := Aside0.mk (hbox); have n2_ := Aside0.mk ((by rw [hg]; exact (below_size (by repeat (first | (with_reducible first | exact HB.out | apply below_alloc | apply pw_below_drewN | apply below_drew1) | exact HB.out))) : w.heap.size ≤ gb139)); have n3_ := Aside0.mk ((by rw [hg]; exact (below_size (by repeat (first | (with_reducible first | exact HB.out | apply below_alloc | apply pw_below_drewN | apply below_drew1) | exact HB.out))) : w.heap.size ≤ gb139)); clear HB; have HB := n0_; have BK139 := n1_; have GW139 := n2_; have GE139 := n3_; clear n0_ n1_ n2_ n3_; clear hb hbox hg; have hcz5_0 : w4.cell? ⟨gb139, 0, none⟩ = some (.int .i64 a0_0) := (blk_cell BK139.out 0).trans rfl; have hcz5_1 : w4.cell? ⟨gb139, 1, none⟩ = some (.int .i64 a0_1) := (blk_cell BK139.out 1).trans rfl; have hfz5_0 := blk_frozen BK139.out 0; have hfz5_1 := blk_frozen BK139.out 1))
    go_ret
    exact ⟨by first | rfl | (simp [errW_none, errW_some] <;> rfl) | (simp [*, errW_none, errW_some] <;> rfl), by repeat (first | (with_reducible first | exact HB.out | apply below_alloc | apply pw_below_drewN | apply below_drew1 | refine below_set ?_ GE139.out) | exact HB.out)⟩
  · rw [if_neg c3] at H
    have c3b0 : decide (a0_0 ≤ a1) = false := decide_eq_false c3
    clear c3
    obtain rfl := Option.some.inj H
    go_enter Try.func71, Try.ntmps71
    go_wp2_with (first | ((with_reducible refine gate_dst (N := 2) rfl ?_); refine box_event ?hg (N := 2) ?hd (cs := #[.int .i64 a0_0, .int .i64 a0_1]) (t := 29) ?hr ?_; (case hd => rfl); (case hg => rfl); (case hr => first | (go_simp; done) | (go_simp; rfl)); intro gb139 hg w6 hbox hb; have n0_ := Aside0.mk (below_step (by repeat (first | (with_reducible first | exact HB.out | apply below_alloc | apply pw_below_drewN | apply below_drew1) | exact HB.out)) hb); have n1_ := Aside0.mk (hbox); have n2_ := Aside0.mk ((by rw [hg]; exact (below_size (by repeat (first | (with_reducible first | exact HB.out | apply below_alloc | apply pw_below_drewN | apply below_drew1) | exact HB.out))) : w.heap.size ≤ gb139)); have n3_ := Aside0.mk ((by rw [hg]; exact (below_size (by repeat (first | (with_reducible first | exact HB.out | apply below_alloc | apply pw_below_drewN | apply below_drew1) | exact HB.out))) : w.heap.size ≤ gb139)); clear HB; have HB := n0_; have BK139 := n1_; have GW139 := n2_; have GE139 := n3_; clear n0_ n1_ n2_ n3_; clear hb hbox hg; have hcz7_0 : w6.cell? ⟨gb139, 0, none⟩ = some (.int .i64 a0_0) := (blk_cell BK139.out 0).trans rfl; have hcz7_1 : w6.cell? ⟨gb139, 1, none⟩ = some (.int .i64 a0_1) := (blk_cell BK139.out 1).trans rfl; have hfz7_0 := blk_frozen BK139.out 0; have hfz7_1 := blk_frozen BK139.out 1))
    go_ret
    exact ⟨by first | rfl | (simp [errW_none, errW_some] <;> rfl) | (simp [*, errW_none, errW_some] <;> rfl), by repeat (first | (with_reducible first | exact HB.out | apply below_alloc | apply pw_below_drewN | apply below_drew1 | refine below_set ?_ GE139.out) | exact HB.out)⟩
theorem eqA160 (d : Nat) (w : World) (x0 y0 : Int) (x1 y1 : ByteArray) (x2 y2 : ByteArray) :
    (Op.equalIn (d + 2) 160 (.agg #[.int .i64 x0, .string x1, .string x2]) (.agg #[.int .i64 y0, .string y1, .string y2])).run Try.prog w = .ok (x0 == y0 && (x1.toList == y1.toList && (x2.toList == y2.toList))) w := by
  refine eqA_of Try.underlying160 (by kernel_rfl) ?_
  refine eqf_cons (by rfl) (by go_simp; rfl) (by go_simp; rfl) (by go_simp) ?_
  refine eqf_cons (by rfl) (by go_simp; rfl) (by go_simp; rfl) (by go_simp) ?_
  exact eqf_last (by rfl) (by go_simp; rfl) (by go_simp; rfl) (by go_simp)
def deployment_subjectOf.f (a0_0 : Int) (a0_1 : Int) (a0_2 : Int) (a0_3 : ByteArray) (a0_4 : ByteArray) (a0_5 : ByteArray) : Option (Int × ByteArray × ByteArray) := some (a0_1, a0_3, a0_4)
set_option maxHeartbeats 8000000 in
set_option maxRecDepth 100000 in
theorem deployment_subjectOf.calls (a0_0 : Int) (a0_1 : Int) (a0_2 : Int) (a0_3 : ByteArray) (a0_4 : ByteArray) (a0_5 : ByteArray) (r1 : Int) (r2 : ByteArray) (r3 : ByteArray) (w : World) (h : deployment_subjectOf.f a0_0 a0_1 a0_2 a0_3 a0_4 a0_5 = some (r1, r2, r3)) :
    Calls Try.prog 87 #[.agg #[.int .i64 a0_0, .int .i64 a0_1, .int .i64 a0_2, .string a0_3, .string a0_4, .string a0_5]] w fun e w' => e = .returned (.agg #[.int .i64 r1, .string r2, .string r3]) ∧ Below w.heap.size w w' := by
  have hu100 := Try.underlying100
  have hu160 := Try.underlying160
  have HB := Aside0.mk (Below.refl w.heap.size w)
  have H : (some (a0_1, a0_3, a0_4)) = some (r1, r2, r3) := h
  clear h
  simp only [Option.some.injEq, Prod.mk.injEq] at H
  obtain ⟨rfl, rfl, rfl⟩ := H
  go_enter Try.func87, Try.ntmps87
  go_wp2_with (first | ((with_reducible refine gate_dst (N := 1) rfl ?_); refine box_event ?hg (N := 1) ?hd (cs := #[.int .i64 a0_0, .int .i64 a0_1, .int .i64 a0_2, .string a0_3, .string a0_4, .string a0_5]) (t := 100) ?hr ?_; (case hd => rfl); (case hg => rfl); (case hr => first | (go_simp; done) | (go_simp; rfl)); intro gb140 hg w2 hbox hb; have n0_ := Aside0.mk (below_step (by repeat (first | (with_reducible first | exact HB.out | apply below_alloc | apply pw_below_drewN | apply below_drew1) | exact HB.out)) hb); have n1_ := Aside0.mk (hbox); have n2_ := Aside0.mk ((by rw [hg]; exact (below_size (by repeat (first | (with_reducible first | exact HB.out | apply below_alloc | apply pw_below_drewN | apply below_drew1) | exact HB.out))) : w.heap.size ≤ gb140)); have n3_ := Aside0.mk ((by rw [hg]; exact (below_size (by repeat (first | (with_reducible first | exact HB.out | apply below_alloc | apply pw_below_drewN | apply below_drew1) | exact HB.out))) : w.heap.size ≤ gb140)); clear HB; have HB := n0_; have BK140 := n1_; have GW140 := n2_; have GE140 := n3_; clear n0_ n1_ n2_ n3_; clear hb hbox hg) | ((with_reducible refine gate_dst (N := 2) rfl ?_); refine box_event ?hg (N := 2) ?hd (cs := #[.int .i64 0, .string (⟨#[]⟩ : ByteArray), .string (⟨#[]⟩ : ByteArray)]) (t := 160) ?hr ?_; (case hd => rfl); (case hg => rfl); (case hr => first | (go_simp; done) | (go_simp; rfl)); intro gb141 hg w3 hbox hb; have n0_ := Aside0.mk (blk_below (g := gb140) (o := .cells #[.int .i64 a0_0, .int .i64 a0_1, .int .i64 a0_2, .string a0_3, .string a0_4, .string a0_5] 100 (0, 0)) (by (with_reducible repeat (first | refine blk_drewN ?_ _ | refine blk_drew ?_ | refine blk_alloc ?_ _)); exact BK140.out) hb); have n1_ := Aside0.mk (below_step (by repeat (first | (with_reducible first | exact HB.out | apply below_alloc | apply pw_below_drewN | apply below_drew1 | refine below_set ?_ GE140.out) | exact HB.out)) hb); have n2_ := Aside0.mk (hbox); have n3_ := Aside0.mk ((by rw [hg]; exact (below_size (by repeat (first | (with_reducible first | exact HB.out | apply below_alloc | apply pw_below_drewN | apply below_drew1 | refine below_set ?_ GE140.out) | exact HB.out))) : w.heap.size ≤ gb141)); have n4_ := Aside0.mk ((by rw [hg]; exact (below_size (by repeat (first | (with_reducible first | exact HB.out | apply below_alloc | apply pw_below_drewN | apply below_drew1 | refine below_set ?_ GE140.out) | exact HB.out))) : w.heap.size ≤ gb141)); have n5_ := Aside0.mk ((by rw [hg]; exact Nat.ne_of_lt (blk_lt (g := gb140) (o := .cells #[.int .i64 a0_0, .int .i64 a0_1, .int .i64 a0_2, .string a0_3, .string a0_4, .string a0_5] 100 (0, 0)) (by (with_reducible repeat (first | refine blk_drewN ?_ _ | refine blk_drew ?_ | refine blk_alloc ?_ _)); exact BK140.out)) : gb140 ≠ gb141)); have n6_ := Aside0.mk ((by rw [hg]; exact Nat.ne_of_gt (blk_lt (g := gb140) (o := .cells #[.int .i64 a0_0, .int .i64 a0_1, .int .i64 a0_2, .string a0_3, .string a0_4, .string a0_5] 100 (0, 0)) (by (with_reducible repeat (first | refine blk_drewN ?_ _ | refine blk_drew ?_ | refine blk_alloc ?_ _)); exact BK140.out)) : gb141 ≠ gb140)); clear BK140; clear HB; have BK140 := n0_; have HB := n1_; have BK141 := n2_; have GW141 := n3_; have GE141 := n4_; have NB140_141 := n5_; have NB141_140 := n6_; clear n0_ n1_ n2_ n3_ n4_ n5_ n6_; clear hb hbox hg; have hnb4 := NB140_141.out; have hnc4 := NB141_140.out; have hcz5_0 : w3.cell? ⟨gb140, 0, none⟩ = some (.int .i64 a0_0) := (blk_cell BK140.out 0).trans rfl; have hcz5_1 : w3.cell? ⟨gb140, 1, none⟩ = some (.int .i64 a0_1) := (blk_cell BK140.out 1).trans rfl; have hcz5_2 : w3.cell? ⟨gb140, 2, none⟩ = some (.int .i64 a0_2) := (blk_cell BK140.out 2).trans rfl; have hcz5_3 : w3.cell? ⟨gb140, 3, none⟩ = some (.string a0_3) := (blk_cell BK140.out 3).trans rfl; have hcz5_4 : w3.cell? ⟨gb140, 4, none⟩ = some (.string a0_4) := (blk_cell BK140.out 4).trans rfl; have hcz5_5 : w3.cell? ⟨gb140, 5, none⟩ = some (.string a0_5) := (blk_cell BK140.out 5).trans rfl; have hfz5_0 := blk_frozen BK140.out 0; have hfz5_1 := blk_frozen BK140.out 1; have hfz5_2 := blk_frozen BK140.out 2; have hfz5_3 := blk_frozen BK140.out 3; have hfz5_4 := blk_frozen BK140.out 4; have hfz5_5 := blk_frozen BK140.out 5; have hcz6_0 : w3.cell? ⟨gb141, 0, none⟩ = some (.int .i64 0) := (blk_cell BK141.out 0).trans rfl; have hcz6_1 : w3.cell? ⟨gb141, 1, none⟩ = some (.string (⟨#[]⟩ : ByteArray)) := (blk_cell BK141.out 1).trans rfl; have hcz6_2 : w3.cell? ⟨gb141, 2, none⟩ = some (.string (⟨#[]⟩ : ByteArray)) := (blk_cell BK141.out 2).trans rfl; have hfz6_0 := blk_frozen BK141.out 0; have hfz6_1 := blk_frozen BK141.out 1; have hfz6_2 := blk_frozen BK141.out 2))
  refine bodyPost_ret (results_cell_row rfl _ _ gb141 160 #[.int .i64 a0_1, .string a0_3, .string a0_4] (0, 0) _ rfl (by (with_reducible repeat (first | refine blk_drewN ?_ _ | refine blk_drew ?_ | refine blk_alloc ?_ _)); refine blk_put (cs := #[.int .i64 a0_1, .string a0_3, .string (⟨#[]⟩ : ByteArray)]) ?_ 2 _ rfl; (with_reducible repeat (first | refine blk_drewN ?_ _ | refine blk_drew ?_ | refine blk_alloc ?_ _)); refine blk_put (cs := #[.int .i64 a0_1, .string (⟨#[]⟩ : ByteArray), .string (⟨#[]⟩ : ByteArray)]) ?_ 1 _ rfl; (with_reducible repeat (first | refine blk_drewN ?_ _ | refine blk_drew ?_ | refine blk_alloc ?_ _)); refine blk_put (cs := #[.int .i64 0, .string (⟨#[]⟩ : ByteArray), .string (⟨#[]⟩ : ByteArray)]) ?_ 0 _ rfl; (with_reducible repeat (first | refine blk_drewN ?_ _ | refine blk_drew ?_ | refine blk_alloc ?_ _)); exact BK141.out) Try.underlying160 rfl (by kernel_rfl)) rfl ?_
  exact ⟨by first | rfl | (simp [errW_none, errW_some] <;> rfl) | (simp [*, errW_none, errW_some] <;> rfl), by repeat (first | (with_reducible first | exact HB.out | apply below_alloc | apply pw_below_drewN | apply below_drew1 | refine below_set ?_ GE140.out | refine below_set ?_ GE141.out) | exact HB.out)⟩
end Go.Proofs.Ytdadnapfecmmdaa.P
