/- Own texts of a proof about layer 55's simulate (merged): Mg, PF116, PF117, Sc, Mh. -/
import Derived.Test.YtdadnapfecmmdaaYm10
import Derived.Test.YtdadnapfecmmdaaYm11
import Derived.Test.YtdadnapfecmmdaaYm12
import Derived.Test.YtdadnapfecmmdaaYm13
import Derived.Test.YtdadnapfecmmdaaYm16
import Derived.Test.YtdadnapfecmmdaaYm2
import Derived.Test.YtdadnapfecmmdaaYm5
import Derived.Test.YtdadnapfecmmdaaYm9
import Derived.Deep.DeepMust
namespace Go.Proofs.Ytdadnapfecmmdaa.P
set_option linter.unusedVariables false
set_option linter.unusedSimpArgs false
open Go.RowKit Go.Proofs.YtdadnapfecmmdaaW.PrintWords Go.Proofs.YtdadnapfecmmdaaW.PrintLast Go.Proofs.YtdadnapfecmmdaaW.PrintMore
open Go.Proofs.Ytdadnapfecmmdaa.Hm
theorem own_cell51 {W : World} {b r cp : Nat} {xs : List (Tr × Value)} (ho : W.ownsRow b 51 3 (.slice (some ⟨r, 0, none⟩) xs.length cp) xs.length (trc xs)) (j : Nat) (hj : j < xs.length) :
    W.cell? ⟨r, j * 3, none⟩ = some (.int .i64 xs[j].1.id) ∧ W.cell? ⟨r, j * 3 + 1, none⟩ = some (.int .i64 1) ∧ W.cell? ⟨r, j * 3 + 2, none⟩ = some xs[j].2 := by
  rcases ho.2 with ⟨_, h⟩ | ⟨r', cap, cur, e, hb, hr, h1, h2, h3, h4⟩
  · omega
  · injection e with e
    injection e with e
    injection e with e
    subst e
    have ht := trc_at xs j hj
    have hl := trc_len xs
    have hc : ∀ i, i < 3 → cur[j * 3 + i]? = [Value.int .i64 xs[j].1.id, .int .i64 1, xs[j].2][i]? := fun i hi => by
      rw [← ht, List.getElem?_take, if_pos hi, List.getElem?_drop, ← h4, List.getElem?_take, if_pos (by omega), Array.getElem?_toList]
    exact ⟨by rw [blk_cell hr]; exact hc 0 (by omega), by rw [blk_cell hr]; exact hc 1 (by omega), by rw [blk_cell hr]; exact hc 2 (by omega)⟩
theorem spc_one (l : List Sp) : ∀ u ∈ spc l, u.oneCell' = true := by
  induction l with
  | nil => intro u hu; cases hu
  | cons s r ih =>
    intro u hu
    rcases List.mem_append.mp hu with h | h
    · simp only [Sp.cells, List.mem_cons, List.not_mem_nil, or_false] at h
      rcases h with rfl | rfl | rfl | rfl | rfl | rfl | rfl | rfl | rfl | rfl | rfl | rfl | rfl | rfl <;> rfl
    · exact ih u h
theorem own_reads {W : World} {b r cp : Nat} {l : List Sp} (ho : W.ownsRow b 56 14 (.slice (some ⟨r, 0, none⟩) l.length cp) l.length (spc l)) (i : Nat) (u : Value) (hi : (spc l)[i]? = some u) : W.cell? ⟨r, i, none⟩ = some u := by
  rcases ho.2 with ⟨_, h⟩ | ⟨r', cap, cur, e, hb, hr, h1, h2, h3, h4⟩
  · obtain rfl : l = [] := List.eq_nil_of_length_eq_zero h
    cases hi
  · injection e with e
    injection e with e
    injection e with e
    subst e
    have hil : i < l.length * 14 := by rw [← spc_len]; exact (List.getElem?_eq_some_iff.mp hi).1
    rw [blk_cell hr, ← hi, ← h4, List.getElem?_take, if_pos hil, Array.getElem?_toList]
def shT.T10 : Bool × List (List Nat × List Nat) := (true, [([], []), ([], []), ([1], [1]), ([], []), ([2, 3], [2, 3]), ([4], [4]), ([5], [5]), ([0, 6], [0, 6]), ([7], [7]), ([8], [8]), ([8], [8]), ([9, 7, 0, 1, 2, 3, 4, 5, 6, 7, 8, 9], [9]), ([10, 11, 0, 1, 2, 3, 4, 5, 6, 7, 8, 9, 10, 11], [10])])
def shT.B10 : List Nat := [0, 0, 2, 0, 14, 30, 62, 127, 255, 511, 511, 1023, 4095]
theorem shT.tab10 : rtab .any (opsOf Try.f23 10) = shT.T10 := by kernel_rfl
theorem shT.bits10 : waitsOk shT.T10.2 shT.B10 = true := by kernel_rfl
def shT.T11 : Bool × List (List Nat × List Nat) := (true, [([], []), ([0], [0]), ([], []), ([], []), ([3], [3]), ([], []), ([], []), ([6], [6]), ([], []), ([7, 8], [7, 8]), ([9], [9]), ([10], [10]), ([], []), ([11, 12], [11, 12]), ([], []), ([14], [14]), ([], []), ([15, 16], [15, 16]), ([17], [17]), ([18], [18]), ([], []), ([19, 20], [19, 20]), ([1, 2, 0, 1, 2, 6, 7, 8, 9, 10, 11, 12, 13, 19], [1, 2]), ([22, 0, 1, 2, 6, 7, 8, 9, 10, 11, 12, 13, 19], [22]), ([23, 13, 0, 1, 2, 6, 7, 8, 9, 10, 11, 12, 13, 19], [13, 23]), ([4, 5, 0, 1, 2, 3, 4, 5, 6, 7, 8, 9, 10, 11, 12, 13, 14, 15, 16, 17, 18, 19, 20, 21, 22, 23, 24], [4, 5]), ([25, 0, 1, 2, 3, 4, 5, 6, 7, 8, 9, 10, 11, 12, 13, 14, 15, 16, 17, 18, 19, 20, 21, 22, 23, 24], [25]), ([26, 21, 24, 0, 1, 2, 3, 4, 5, 6, 7, 8, 9, 10, 11, 12, 13, 14, 15, 16, 17, 18, 19, 20, 21, 22, 23, 24], [21, 26])])
def shT.B11 : List Nat := [0, 1, 0, 0, 8, 0, 0, 64, 0, 448, 960, 1984, 0, 8128, 0, 16384, 0, 114688, 245760, 507904, 0, 2080768, 1048519, 5242823, 13631431, 33554431, 67108863, 134217727]
theorem shT.tab11 : rtab .any (opsOf Try.f23 11) = shT.T11 := by kernel_rfl
theorem shT.bits11 : waitsOk shT.T11.2 shT.B11 = true := by kernel_rfl
set_option maxHeartbeats 8000000 in
set_option maxRecDepth 100000 in
theorem mshown_calls (c : Cfg) (p : CfgAt) (b : Nat) (ts : List Tr) (vt : Value) (w : World) (hR : CfgR w p c) (hT : TsOut b w ts vt) (hne : ∀ x ∈ ts, x.l ≠ []) (hlen : ∀ x ∈ ts, x.l.length ≤ 1000) (htl : ts.length ≤ 10000) :
    Calls Try.prog 23 #[c.val p, vt] w fun e w' => ∃ v, e = .returned v ∧ TsOut w.heap.size w' (ts.map fun x => ⟨x.id, x.l.map (shiftSp c.off)⟩) v ∧ Below w.heap.size w w' := by
  obtain ⟨xs, hxs, hown, htr⟩ := hT
  have hxl : xs.length = ts.length := by rw [← hxs, List.length_map]
  obtain ⟨A0, cp00, rfl⟩ := own_slice hown
  obtain ⟨A1, c1, A2, c2, A3, c3, A4, c4⟩ := p
  obtain ⟨i0, hi0, hz⟩ := Option.map_eq_some_iff.1 info56
  simp only [Prod.mk.injEq] at hz
  obtain ⟨hz0, hz1, hz2⟩ := hz
  have HI := Aside0.mk hi0
  have HZ0 := Aside0.mk hz0
  have HZ1 := Aside0.mk hz1
  have HZ2 := Aside0.mk hz2
  have HCF := Aside0.mk (fun W' (hb : Below w.heap.size w W') => hR.below hb)
  have HXS := Aside0.mk hxs
  have HXL := Aside0.mk hxl
  have hxb : xs.length ≤ 10000 := by omega
  have HOW := Aside0.mk hown
  have HTR := Aside0.mk htr
  have HNE := Aside0.mk hne
  have HLEN := Aside0.mk hlen
  have HX0 := Aside0.mk (blk_new w (.cells (c.cells ⟨A1, c1, A2, c2, A3, c3, A4, c4⟩) 31))
  have HB0 := Aside0.mk (below_alloc (Below.refl w.heap.size w) (.cells (c.cells ⟨A1, c1, A2, c2, A3, c3, A4, c4⟩) 31))
  clear hR hxs hown htr hne hlen hxl htl hi0 hz0 hz1 hz2
  go_enter Try.func23, Try.ntmps23
  go_wp2_with fail
  go_loopg [5, 6] xs.length (fun gg s5 s6 wr => ∃ (i : Nat) (ys : List (Tr × Value)) (cp : Nat) (A : Option Addr), s5 = .slice A ys.length cp ∧ s6 = .int .i64 (i : Int) ∧ i ≤ xs.length ∧ xs.length - i ≤ gg ∧ Aside0 (ys.map (·.1) = (ts.take i).map fun x => (⟨x.id, x.l.map (shiftSp c.off)⟩ : Tr)) ∧ Aside0 (ys.length = i) ∧ Aside0 (wr.ownsRow w.heap.size 51 3 (.slice A ys.length cp) ys.length (trc ys)) ∧ Aside0 (TsR wr w.heap.size ys) ∧ Aside0 (Below w.heap.size w wr) ∧ Aside0 (wr.heap[w.heap.size]? = some (.cells (c.cells ⟨A1, c1, A2, c2, A3, c3, A4, c4⟩) 31 (0, 0))))
  case atStart => exact ⟨0, [], 0, none, by rfl, by rfl, by omega, by omega, ⟨rfl⟩, ⟨rfl⟩, ⟨rfl, .inl ⟨rfl, rfl⟩⟩, ⟨fun _ h => by cases h⟩, HB0, HX0⟩
  case round =>
    clear HB0 HX0
    obtain ⟨i, ys, cp, A, rfl, rfl, hi, hgi, HM, HL, HO, HT, HB, HX⟩ := hrel
    by_cases hlt : i < xs.length
    · have g0 : decide ((i : Int) < (xs.length : Int)) = true := by simpa using hlt
      have g1 : (i : Int) < (xs.length : Int) := by omega
      have s1 : IntKind.i64.wrap ((i : Int) + 1) = (i : Int) + 1 := IntWalk.i64_in _ (by omega)
      have how := pw_own_below HOW.out HB.out
      obtain ⟨r0, cq0, cur0, e0, _, _⟩ := own_some how (by omega)
      injection e0 with e0 _ e0'
      subst e0
      subst e0'
      obtain ⟨t0, t1, t2⟩ := own_cell51 how i hlt
      have hvx := pw_own_below (HTR.out xs[i] (List.getElem_mem hlt)) HB.out
      have hx1 : ts[i]'(by have := HXL.out; omega) = xs[i].1 := by
        have := HXS.out
        subst this
        simp
      have hxm : xs[i].1 ∈ ts := hx1 ▸ List.getElem_mem _
      have hlne : 0 < xs[i].1.l.length := List.length_pos_iff.mpr (HNE.out _ hxm)
      have hlle := HLEN.out _ hxm
      have HTK : Aside0 (ts.take (i + 1) = ts.take i ++ [xs[i].1]) := ⟨by rw [List.take_succ_eq_append_getElem (by have := HXL.out; omega), hx1]⟩
      clear how hxm hx1
      obtain ⟨rx, cx, curx, ex, hrx, _⟩ := own_some hvx hlne
      rw [ex] at t2 hvx
      generalize xs[i].1 = x at t0 t2 hvx hlne hlle HTK
      have HVX := Aside0.mk hvx
      clear hvx ex hrx
      go_upto_region 6 with fail
      have hx0 := blk_new wr (.cells #[.int .i64 x.id, .int .i64 1, .slice (some ⟨rx, 0, none⟩) x.l.length cx] 51)
      have hbx : Below wr.heap.size wr (wr.alloc (.cells #[.int .i64 x.id, .int .i64 1, .slice (some ⟨rx, 0, none⟩) x.l.length cx] 51)) := below_alloc (Below.refl _ _) _
      clear t0 t1 t2
      obtain ⟨bt, hbt⟩ : ∃ bt : Nat, bt = wr.heap.size := ⟨_, rfl⟩
      have hx0' : (wr.alloc (.cells #[.int .i64 x.id, .int .i64 1, .slice (some ⟨rx, 0, none⟩) x.l.length cx] 51)).heap[bt]? = some (.cells #[.int .i64 x.id, .int .i64 1, .slice (some ⟨rx, 0, none⟩) x.l.length cx] 51 (0, 0)) := by rw [hbt]; exact hx0
      rw [← hbt]
      generalize wr.alloc (.cells #[.int .i64 x.id, .int .i64 1, .slice (some ⟨rx, 0, none⟩) x.l.length cx] 51) = wa at hx0' hbx ⊢
      have HA0 := Aside0.mk hx0'
      have HBA := Aside0.mk hbx
      have hbtl : bt < wa.heap.size := blk_lt hx0'
      have hbtw : wr.heap.size ≤ bt := by omega
      clear hbt
      clear hx0 hx0' hbx
      go_cut [7] (fun s7 wz => s7 = .pointer (some ⟨bt, 0, none⟩) ∧ ∃ r cp0 : Nat, bt ≠ r ∧ Aside0 (wz.heap[bt]? = some (.cells #[.int .i64 x.id, .int .i64 1, (.slice (some ⟨r, 0, none⟩) x.l.length cp0)] 51 (0, 0))) ∧ Aside0 (wz.ownsRow wr.heap.size 56 14 (.slice (some ⟨r, 0, none⟩) x.l.length cp0) x.l.length (spc x.l)) ∧ Aside0 (Below wr.heap.size wr wz))
      case first =>
        have q2 : wa.cell? ⟨bt, 2, none⟩ = some (.slice (some ⟨rx, 0, none⟩) x.l.length cx) := (blk_cell HA0.out 2).trans rfl
        have n1 : bt ≠ wa.heap.size := by omega
        go_wp2_with (at_builtin; refine wpList_append_own _ rfl _ _ 49 rfl wa.heap.size 56 i0 _ 14 168 Try.underlying49 HI.out HZ0.out HZ1.out HZ2.out rfl (by decide) _ _ _ rfl (World.ownsRow_made wa #[] 0 (Nat.le_refl _) (Nat.zero_le _) (by simp)) ⟨rx, 0, none⟩ x.l.length cx (spc x.l) rfl ?qc1 ?qc2 ?qc3 ?qc4 ?qc5 ?qc6 ?_)
        case qc1 => rw [spc_len]
        case qc2 =>
          intro j u hj
          have h1 := own_reads (pw_own_below HVX.out HBA.out) j u hj
          exact Lib.cell?_alloc_some _ h1
        case qc3 => exact spc_one x.l
        case qc4 => have : (1000 : Nat) ≤ maxLen := by decide
                    omega
        case qc5 => omega
        intro v' w1 hown hgrow hnil
        obtain ⟨r, cp0, cur, rfl, hr, hbr⟩ := own_some hown (by omega)
        have hbw : Below wa.heap.size wa w1 := ((Below.refl _ wa).alloc (Nat.le_refl _) _).grown hgrow (by simp) (by intro k hk; simp [Value.ownBlock] at hk; omega)
        have hb1 := blk_below HA0.out hbw
        have HB1 := Aside0.mk hb1
        have HOV : Aside0 (w1.ownsRow wr.heap.size 56 14 (.slice (some ⟨r, 0, none⟩) x.l.length cp0) x.l.length (spc x.l)) := ⟨by
          have h := own_base hown HBA.out.size
          simpa using h⟩
        have HBW1 := Aside0.mk (below_step HBA.out hbw)
        have hne1 : bt ≠ r := by omega
        have z1 := blk_frozen hb1 2
        have z2 : w1.cell? ⟨bt, 2, none⟩ = some (.slice (some ⟨rx, 0, none⟩) x.l.length cx) := (blk_cell hb1 2).trans rfl
        clear hown hgrow hnil hr hbr hbw hb1 q2 n1
        go_wp2_with fail
        go_meet
        refine ⟨rfl, r, cp0, hne1, ⟨?_⟩, ⟨?_⟩, ⟨HBW1.out.setCell (by omega) _⟩⟩
        · have h := blk_set HB1.out 2 (.slice (some ⟨r, 0, none⟩) x.l.length cp0)
          simpa using h
        · exact own_setCell HOV.out (by simp [Value.ownBlock]; exact hne1) _
      case rest =>
      obtain ⟨rfl, r, cp0, hbr, HV4, HO4, HB4⟩ := hcut
      clear HA0 HBA hbtl HVX
      obtain ⟨wt, hwt⟩ : ∃ wt : World, wt = wr := ⟨_, rfl⟩
      rw [← hwt] at HO HT HB HX HO4 HB4 hbtw
      clear hwt
      have HO4 : Aside0 (wc.ownsRow wt.heap.size 56 14 (.slice (some ⟨r, 0, none⟩) x.l.length cp0) x.l.length (spc (mid (shiftSp c.off) x.l 0))) := ⟨by rw [mid_zero]; exact HO4.out⟩
      go_wp2_with fail
      go_loopg [8] x.l.length (fun gg s8 w4 => ∃ (m : Nat), m ≤ x.l.length ∧ x.l.length - m ≤ gg ∧ s8 = .int .i64 (m : Int) ∧ Aside0 (w4.ownsRow wt.heap.size 56 14 (.slice (some ⟨r, 0, none⟩) x.l.length cp0) x.l.length (spc (mid (shiftSp c.off) x.l m))) ∧ Aside0 (w4.heap[bt]? = some (.cells #[.int .i64 x.id, .int .i64 1, (.slice (some ⟨r, 0, none⟩) x.l.length cp0)] 51 (0, 0))) ∧ Aside0 (Below wt.heap.size wt w4))
      case atStart => exact ⟨0, by omega, by omega, by rfl, HO4, HV4, HB4⟩
      case round =>
        clear HO4 HV4 HB4
        obtain ⟨m, hm, hgm, rfl, HO4, HV4, HB4⟩ := hrel
        have q2 : wr.cell? ⟨bt, 2, none⟩ = some (.slice (some ⟨r, 0, none⟩) x.l.length cp0) := (blk_cell HV4.out 2).trans rfl
        by_cases hmlt : m < x.l.length
        · have g2 : decide ((m : Int) < (x.l.length : Int)) = true := by simpa using hmlt
          have g3 : (m : Int) < (x.l.length : Int) := by omega
          have g4 : (0 : Int) ≤ (m : Int) := by omega
          have s3 : IntKind.i64.wrap ((m : Int) + 1) = (m : Int) + 1 := IntWalk.i64_in _ (by omega)
          have hmd : (mid (shiftSp c.off) x.l m).length = x.l.length := mid_len _ x.l m
          have hml : m < (mid (shiftSp c.off) x.l m).length := by omega
          have hms : (mid (shiftSp c.off) x.l m)[m] = x.l[m] := mid_get _ x.l m hmlt hml
          have HST := Aside0.mk (mid_set (shiftSp c.off) x.l m hmlt)
          have HO4 : Aside0 (wr.ownsRow wt.heap.size 56 14 (.slice (some ⟨r, 0, none⟩) (mid (shiftSp c.off) x.l m).length cp0) (mid (shiftSp c.off) x.l m).length (spc (mid (shiftSp c.off) x.l m))) := ⟨by rw [hmd]; exact HO4.out⟩
          obtain ⟨e4, _, _, _⟩ := own_cell56 HO4.out m 4 hml (by omega)
          obtain ⟨e9, _, _, _⟩ := own_cell56 HO4.out m 9 hml (by omega)
          obtain ⟨e10, _, _, _⟩ := own_cell56 HO4.out m 10 hml (by omega)
          rw [hms] at e4 e9 e10
          have HSF : Aside0 (shiftSp c.off x.l[m] = { x.l[m] with st := wrap64 (x.l[m].st + (offOf c.off x.l[m].clk).1), en := wrap64 (x.l[m].en + (offOf c.off x.l[m].clk).1) }) := ⟨rfl⟩
          generalize x.l[m] = s at e4 e9 e10 hms HST HSF
          replace e4 : wr.cell? ⟨r, m * 14 + 4, none⟩ = some (.int .i64 s.clk) := e4
          replace e9 : wr.cell? ⟨r, m * 14 + 9, none⟩ = some (.int .i64 s.st) := e9
          replace e10 : wr.cell? ⟨r, m * 14 + 10, none⟩ = some (.int .i64 s.en) := e10
          go_upto_region 10 with fail
          have HBW := Aside0.mk (below_step HB.out HB4.out)
          go_cut [9] (fun s9 wz => s9 = .int .i64 (offOf c.off s.clk).1 ∧ Aside0 (Below wr.heap.size wr wz))
          case first =>
            have m0 : wr.cell? ⟨w.heap.size, 0, none⟩ = some (.int .i64 c.seed) := (HB4.out.cell (World.block_lt_of_cell? wt ⟨w.heap.size, 0, none⟩ ((blk_cell HX.out 0).trans rfl))).trans ((blk_cell HX.out 0).trans rfl)
            have m1 : wr.cell? ⟨w.heap.size, 1, none⟩ = some (.slice A1 c.sv.length c1) := (HB4.out.cell (World.block_lt_of_cell? wt ⟨w.heap.size, 1, none⟩ ((blk_cell HX.out 1).trans rfl))).trans ((blk_cell HX.out 1).trans rfl)
            have m2 : wr.cell? ⟨w.heap.size, 2, none⟩ = some (.slice A2 c.off.length c2) := (HB4.out.cell (World.block_lt_of_cell? wt ⟨w.heap.size, 2, none⟩ ((blk_cell HX.out 2).trans rfl))).trans ((blk_cell HX.out 2).trans rfl)
            have m3 : wr.cell? ⟨w.heap.size, 3, none⟩ = some (.slice A3 c.ch.length c3) := (HB4.out.cell (World.block_lt_of_cell? wt ⟨w.heap.size, 3, none⟩ ((blk_cell HX.out 3).trans rfl))).trans ((blk_cell HX.out 3).trans rfl)
            have m4 : wr.cell? ⟨w.heap.size, 4, none⟩ = some (.slice A4 c.fl.length c4) := (HB4.out.cell (World.block_lt_of_cell? wt ⟨w.heap.size, 4, none⟩ ((blk_cell HX.out 4).trans rfl))).trans ((blk_cell HX.out 4).trans rfl)
            have m5 : wr.cell? ⟨w.heap.size, 5, none⟩ = some (.int .i64 c.sfrom) := (HB4.out.cell (World.block_lt_of_cell? wt ⟨w.heap.size, 5, none⟩ ((blk_cell HX.out 5).trans rfl))).trans ((blk_cell HX.out 5).trans rfl)
            have m6 : wr.cell? ⟨w.heap.size, 6, none⟩ = some (.int .i64 c.sto) := (HB4.out.cell (World.block_lt_of_cell? wt ⟨w.heap.size, 6, none⟩ ((blk_cell HX.out 6).trans rfl))).trans ((blk_cell HX.out 6).trans rfl)
            have m7 : wr.cell? ⟨w.heap.size, 7, none⟩ = some (.int .i64 c.per) := (HB4.out.cell (World.block_lt_of_cell? wt ⟨w.heap.size, 7, none⟩ ((blk_cell HX.out 7).trans rfl))).trans ((blk_cell HX.out 7).trans rfl)
            have m8 : wr.cell? ⟨w.heap.size, 8, none⟩ = some (.int .i64 c.delay) := (HB4.out.cell (World.block_lt_of_cell? wt ⟨w.heap.size, 8, none⟩ ((blk_cell HX.out 8).trans rfl))).trans ((blk_cell HX.out 8).trans rfl)
            have m9 : wr.cell? ⟨w.heap.size, 9, none⟩ = some (.int .i64 c.chunk) := (HB4.out.cell (World.block_lt_of_cell? wt ⟨w.heap.size, 9, none⟩ ((blk_cell HX.out 9).trans rfl))).trans ((blk_cell HX.out 9).trans rfl)
            have m10 : wr.cell? ⟨w.heap.size, 10, none⟩ = some (.int .i64 c.loss) := (HB4.out.cell (World.block_lt_of_cell? wt ⟨w.heap.size, 10, none⟩ ((blk_cell HX.out 10).trans rfl))).trans ((blk_cell HX.out 10).trans rfl)
            have m11 : wr.cell? ⟨w.heap.size, 11, none⟩ = some (.int .i64 c.rep) := (HB4.out.cell (World.block_lt_of_cell? wt ⟨w.heap.size, 11, none⟩ ((blk_cell HX.out 11).trans rfl))).trans ((blk_cell HX.out 11).trans rfl)
            refine start_ (n := 13) (S := fun w' => Below wr.heap.size wr w') (ds := []) (bz 13 0) (by kernel_rfl) rfl rfl (Below.refl _ _).drew (fun hHeld => ?_)
            refine with_tabW shT.tab10 shT.bits10 (fun HT_ HW_ => ?_)
            generalize wr.drew = wd at hHeld ⊢
            refine tk_ 0 (some 34) (bz 13 1) HT_ HW_ rfl rfl hHeld ?_ (by intro w' hS; replace m0 := below_at hS m0; replace m1 := below_at hS m1; replace m2 := below_at hS m2; replace m3 := below_at hS m3; replace m4 := below_at hS m4; replace m5 := below_at hS m5; replace m6 := below_at hS m6; replace m7 := below_at hS m7; replace m8 := below_at hS m8; replace m9 := below_at hS m9; replace m10 := below_at hS m10; replace m11 := below_at hS m11; go_simp; with_reducible rfl)
            refine pu_ 1 (some 35) (bz 13 3) HT_ rfl rfl ?_
            refine tk_ 2 (some 36) (bz 13 7) HT_ HW_ rfl rfl hHeld ?_ (by intro w' hS; replace q2 := below_at hS q2; go_simp; with_reducible rfl)
            refine pu_ 3 (some 37) (bz 13 15) HT_ rfl rfl ?_
            refine pu_ 4 (some 38) (bz 13 31) HT_ rfl rfl ?_
            refine pu_ 5 (some 39) (bz 13 63) HT_ rfl rfl ?_
            refine tk_ 6 (some 40) (bz 13 127) HT_ HW_ rfl rfl hHeld ?_ (by intro w' hS; replace e4 := below_at hS e4; go_simp; with_reducible rfl)
            refine one_ (i := 7) (N := some 41) (bz 13 255) rfl rfl (one_of HT_.out (by kernel_rfl)) (by decide) (fun K hK => ?_)
            refine goes_ Try.func30 (by kernel_rfl) rfl #[c.val ⟨A1, c1, A2, c2, A3, c3, A4, c4⟩, .int .i64 s.clk] (by rfl) rfl rfl (by (try simp only [List.map_toArray, List.map_cons, List.map_nil]); first | done | rfl) ?_
            with_reducible refine (moffset_calls c ⟨A1, c1, A2, c2, A3, c3, A4, c4⟩ s.clk _ (HCF.out _ (below_step HBW.out hHeld))).mono ?_
            rintro e wx ⟨rfl, hb⟩
            refine ⟨_, rfl, ?_⟩
            replace hHeld := below_step hHeld hb
            clear hb
            refine hK.out _ _ hHeld (fun hHeld => ?_)
            clear hK K
            refine norm_ (a' := ?_) ?_ ?_
            rotate_left
            · show Act.put _ (some 41) _ = _
              simp only [Act.put, List.setIfInBounds_toArray, List.set_cons_zero, List.set_cons_succ, i64_w, i32_w]
              rfl
            refine pu_ 8 (some 33) (bz 13 511) HT_ rfl rfl ?_
            refine pu_ 9 (some 42) (bz 13 1023) HT_ rfl rfl ?_
            refine pu_ 10 (some 43) (bz 13 2047) HT_ rfl rfl ?_
            refine pu_ 11 (some 9) (bz 13 4095) HT_ rfl rfl ?_
            refine pu_ 12 (some 10) (bz 13 8191) HT_ rfl rfl ?_
            refine done_ (done_of HT_.out (by kernel_rfl)) ?_
            go_wp2
            go_meet
            exact ⟨rfl, ⟨hHeld⟩⟩
          case rest =>
          obtain ⟨rfl, HB5⟩ := hcut
          replace HO4 := Aside0.mk (pw_own_below HO4.out HB5.out)
          replace HV4 := Aside0.mk (blk_below HV4.out HB5.out)
          replace q2 := (HB5.out.cell (World.block_lt_of_cell? _ _ q2)).trans q2
          replace e9 := (HB5.out.cell (World.block_lt_of_cell? _ _ e9)).trans e9
          replace e10 := (HB5.out.cell (World.block_lt_of_cell? _ _ e10)).trans e10
          have HB6 := Aside0.mk (below_step HB4.out HB5.out)
          generalize (offOf c.off s.clk).1 = by_ at HSF ⊢
          clear HB4 HB5 HBW e4
          go_upto_region 11 with fail
          have hdr : Below wc.heap.size wc wc.drew := (Below.refl _ _).drew
          have HO5 := Aside0.mk (pw_own_below HO4.out hdr)
          obtain ⟨k9, f9, hbr1, _⟩ := own_cell56 HO5.out m 9 hml (by omega)
          obtain ⟨k10, f10, _, _⟩ := own_cell56 HO5.out m 10 hml (by omega)
          rw [hms] at k9 k10
          replace k9 : wc.drew.cell? ⟨r, m * 14 + 9, none⟩ = some (.int .i64 s.st) := k9
          replace k10 : wc.drew.cell? ⟨r, m * 14 + 10, none⟩ = some (.int .i64 s.en) := k10
          have HVD := Aside0.mk (blk_below HV4.out hdr)
          refine start_ (n := 28) (S := fun w' => w'.heap[bt]? = some (.cells #[.int .i64 x.id, .int .i64 1, (.slice (some ⟨r, 0, none⟩) x.l.length cp0)] 51 (0, 0)) ∧ w'.cell? ⟨r, m * 14 + 10, none⟩ = some (.int .i64 s.en)) (ds := [27]) (bz 28 0) (by kernel_rfl) rfl rfl ⟨HVD.out, k10⟩ (fun hHeld => ?_)
          refine with_tabW shT.tab11 shT.bits11 (fun HT_ HW_ => ?_)
          generalize wc.drew = wd at hHeld hdr HO5 k9 k10 f9 f10 HVD ⊢
          refine pu_ 0 (some 44) (bz 28 1) HT_ rfl rfl ?_
          refine tk_ 1 (some 45) (bz 28 3) HT_ HW_ rfl rfl hHeld ?_ (by intro w' hS; have q2 : w'.cell? ⟨bt, 2, none⟩ = some (.slice (some ⟨r, 0, none⟩) x.l.length cp0) := (blk_cell hS.1 2).trans rfl; go_simp; with_reducible rfl)
          refine pu_ 2 (some 46) (bz 28 7) HT_ rfl rfl ?_
          refine pu_ 3 (some 47) (bz 28 15) HT_ rfl rfl ?_
          refine tk_ 4 (some 48) (bz 28 31) HT_ HW_ rfl rfl hHeld ?_ (by intro w' hS; have q2 : w'.cell? ⟨bt, 2, none⟩ = some (.slice (some ⟨r, 0, none⟩) x.l.length cp0) := (blk_cell hS.1 2).trans rfl; go_simp; with_reducible rfl)
          refine pu_ 5 (some 49) (bz 28 63) HT_ rfl rfl ?_
          refine pu_ 6 (some 50) (bz 28 127) HT_ rfl rfl ?_
          refine tk_ 7 (some 51) (bz 28 255) HT_ HW_ rfl rfl hHeld ?_ (by intro w' hS; have q2 : w'.cell? ⟨bt, 2, none⟩ = some (.slice (some ⟨r, 0, none⟩) x.l.length cp0) := (blk_cell hS.1 2).trans rfl; go_simp; with_reducible rfl)
          refine pu_ 8 (some 52) (bz 28 511) HT_ rfl rfl ?_
          refine pu_ 9 (some 53) (bz 28 1023) HT_ rfl rfl ?_
          refine pu_ 10 (some 54) (bz 28 2047) HT_ rfl rfl ?_
          refine pu_ 12 (some 56) (bz 28 6143) HT_ rfl rfl ?_
          refine pu_ 14 (some 58) (bz 28 22527) HT_ rfl rfl ?_
          refine tk_ 15 (some 59) (bz 28 55295) HT_ HW_ rfl rfl hHeld ?_ (by intro w' hS; have q2 : w'.cell? ⟨bt, 2, none⟩ = some (.slice (some ⟨r, 0, none⟩) x.l.length cp0) := (blk_cell hS.1 2).trans rfl; go_simp; with_reducible rfl)
          refine pu_ 16 (some 60) (bz 28 120831) HT_ rfl rfl ?_
          refine pu_ 17 (some 61) (bz 28 251903) HT_ rfl rfl ?_
          refine pu_ 18 (some 62) (bz 28 514047) HT_ rfl rfl ?_
          refine tk_ 19 (some 63) (bz 28 1038335) HT_ HW_ rfl rfl hHeld ?_ (by intro w' hS; have k10' := hS.2; go_simp; with_reducible rfl)
          refine pu_ 20 (some 64) (bz 28 2086911) HT_ rfl rfl ?_
          refine pu_ 21 (some 65) (bz 28 4184063) HT_ rfl rfl ?_
          refine one_ (i := 11) (N := some 55) (bz 28 4186111) rfl rfl (one_of HT_.out (by kernel_rfl)) (by decide) (fun K hK => ?_)
          rw [if_pos (by rfl)]
          go_simp
          refine hK.out _ _ hHeld (fun hHeld => ?_)
          clear hK K
          refine pu_ 13 (some 57) (bz 28 4194303) HT_ rfl rfl ?_
          refine pu_ 22 (some 66) (bz 28 8388607) HT_ rfl rfl ?_
          refine pu_ 23 (some 67) (bz 28 16777215) HT_ rfl rfl ?_
          refine one_ (i := 24) (N := none) (bz 28 33554431) rfl rfl (one_of HT_.out (by kernel_rfl)) (by decide) (fun K hK => ?_)
          rw [if_pos (by rfl)]
          go_simp
          refine hK.out _ _ ⟨(Below.heap_setCell _ _ _ _ hbr).trans HVD.out, by go_simp⟩ (fun hHeld => ?_)
          clear hK K
          refine pu_ 25 (some 68) (bz 28 67108863) HT_ rfl rfl ?_
          refine pu_ 26 (some 69) (bz 28 134217727) HT_ rfl rfl ?_
          refine last_ (i := 27) (N := none) (bz 28 268435455) rfl rfl (one_of HT_.out (by kernel_rfl)) (by decide) (fun K hK => ?_)
          rw [if_pos (by rfl)]
          go_simp
          refine hK.out _ _ ?_
          clear hK K
          refine done_ (done_of HT_.out (by kernel_rfl)) ?_
          have HO7 : Aside0 (((wd.setCell ⟨r, m * 14 + 9, none⟩ (.int .i64 (wrap64 (s.st + by_)))).setCell ⟨r, m * 14 + 10, none⟩ (.int .i64 (wrap64 (s.en + by_)))).ownsRow wt.heap.size 56 14 (.slice (some ⟨r, 0, none⟩) x.l.length cp0) x.l.length (spc (mid (shiftSp c.off) x.l (m + 1)))) := ⟨by
            have h := own_shift HO5.out m hml (wrap64 (s.st + by_)) (wrap64 (s.en + by_))
            rw [hms, ← HSF.out, HST.out, hmd] at h
            exact h⟩
          have HV7 : Aside0 (((wd.setCell ⟨r, m * 14 + 9, none⟩ (.int .i64 (wrap64 (s.st + by_)))).setCell ⟨r, m * 14 + 10, none⟩ (.int .i64 (wrap64 (s.en + by_)))).heap[bt]? = some (.cells #[.int .i64 x.id, .int .i64 1, (.slice (some ⟨r, 0, none⟩) x.l.length cp0)] 51 (0, 0))) := ⟨by
            rw [Below.heap_setCell _ _ _ _ hbr, Below.heap_setCell _ _ _ _ hbr]
            exact HVD.out⟩
          have HB7 : Aside0 (Below wt.heap.size wt ((wd.setCell ⟨r, m * 14 + 9, none⟩ (.int .i64 (wrap64 (s.st + by_)))).setCell ⟨r, m * 14 + 10, none⟩ (.int .i64 (wrap64 (s.en + by_))))) := ⟨((below_step HB6.out hdr).setCell hbr1 _).setCell hbr1 _⟩
          clear HO4 HV4 HB6 q2 e9 e10 HST HSF hms hml
          go_wp2_with fail
          go_roundg (x.l.length - (m + 1))
          case measure => omega
          case rel => exact ⟨m + 1, by omega, Nat.le_refl _, by first | rfl | go_num, HO7, HV7, HB7⟩
        · obtain rfl : m = x.l.length := by omega
          have g2 : decide ((x.l.length : Int) < (x.l.length : Int)) = false := by simp
          have q0 : wr.cell? ⟨bt, 0, none⟩ = some (.int .i64 x.id) := (blk_cell HV4.out 0).trans rfl
          have q1 : wr.cell? ⟨bt, 1, none⟩ = some (.int .i64 1) := (blk_cell HV4.out 1).trans rfl
          have hO := HO4.out
          rw [mid_end] at hO
          have HO5 := Aside0.mk (own_base hO HB.out.size)
          have HT5 := Aside0.mk (HT.out.below HB4.out)
          have HO6 := Aside0.mk (pw_own_below HO.out HB4.out)
          have HX5 := Aside0.mk (blk_below HX.out HB4.out)
          have HB5 := Aside0.mk (below_step HB.out HB4.out)
          have hyl : ys.length = i := HL.out
          have hbase : w.heap.size ≤ wr.heap.size := HB5.out.size
          clear hO HO4 HV4 HB4 HT HO HX HB
          go_wp2_with (at_builtin; go_must (refine print_append_cells (w0 := w) w.heap.size rfl _ _ 43 51 _ 3 40 rfl Try.underlying43 info51 rfl (by decide) (by decide) (.slice A ys.length cp) ys.length (trc ys) [.int .i64 x.id, .int .i64 1, (.slice (some ⟨r, 0, none⟩) x.l.length cp0)] rfl ?c4 rfl ?c1 HO6.out HB5.out ?c2 ?c3 ?_; (case c1 => intro u hu; simp at hu; rcases hu with rfl | rfl | rfl <;> rfl); (case c4 => show Value.slice (some ⟨wr.heap.size, 0, none⟩) 1 1 = _; first | rfl | simp); (case c2 => first | omega | (simp; omega)); (case c3 => first | omega | (simp; omega)); intro v1 w1 hown1 hb1 hg1 hat1; obtain ⟨A1', cp1, rfl⟩ := own_slice hown1; have HW := Aside0.mk hown1; have HG := Aside0.mk hg1; have HB6 := Aside0.mk hb1; clear hown1 hg1 hb1 hat1))
          have hkeep : ∀ (b : Nat) (cur : Array Value) (ty : TypeId), ty ≠ 51 → wr.heap[b]? = some (Obj.cells cur ty (0, 0)) → w1.heap[b]? = wr.heap[b]? := fun b cur ty hty hb => HG.out.block b (blk_lt hb) (fun e => by
            obtain ⟨cells, hc⟩ := own_typed HO6.out b e.symm
            rw [hb] at hc
            injection hc with hc
            injection hc with _ h2
            exact hty h2)
          have HT7 : Aside0 (TsR w1 w.heap.size (ys ++ [((⟨x.id, x.l.map (shiftSp c.off)⟩ : Tr), Value.slice (some ⟨r, 0, none⟩) x.l.length cp0)])) := ⟨fun y hy => by
            rcases List.mem_append.mp hy with hy | hy
            · exact own_keep (HT5.out y hy) (fun b cur hb => hkeep b cur 56 (by decide) hb)
            · obtain rfl := List.mem_singleton.mp hy
              have h9 := own_keep HO5.out (fun b cur hb => hkeep b cur 56 (by decide) hb)
              simpa using h9⟩
          have HX7 := Aside0.mk ((hkeep _ _ 31 (by decide) HX5.out).trans HX5.out)
          have HO7 : Aside0 (w1.ownsRow w.heap.size 51 3 (.slice A1' (ys ++ [((⟨x.id, x.l.map (shiftSp c.off)⟩ : Tr), Value.slice (some ⟨r, 0, none⟩) x.l.length cp0)]).length cp1) (ys ++ [((⟨x.id, x.l.map (shiftSp c.off)⟩ : Tr), Value.slice (some ⟨r, 0, none⟩) x.l.length cp0)]).length (trc (ys ++ [((⟨x.id, x.l.map (shiftSp c.off)⟩ : Tr), Value.slice (some ⟨r, 0, none⟩) x.l.length cp0)]))) := ⟨by
            rw [trc_snoc, List.length_append]
            exact HW.out⟩
          have HM7 : Aside0 ((ys ++ [((⟨x.id, x.l.map (shiftSp c.off)⟩ : Tr), Value.slice (some ⟨r, 0, none⟩) x.l.length cp0)]).map (·.1) = (ts.take (i + 1)).map fun x => (⟨x.id, x.l.map (shiftSp c.off)⟩ : Tr)) := ⟨by
            rw [List.map_append, HM.out, HTK.out, List.map_append]
            rfl⟩
          have HL7 : Aside0 ((ys ++ [((⟨x.id, x.l.map (shiftSp c.off)⟩ : Tr), Value.slice (some ⟨r, 0, none⟩) x.l.length cp0)]).length = i + 1) := ⟨by rw [List.length_append, hyl]; rfl⟩
          go_roundg (xs.length - (i + 1))
          case measure => omega
          case rel => exact ⟨i + 1, _, cp1, A1', by rw [HL7.out], by first | rfl | go_num, by omega, Nat.le_refl _, HM7, HL7, HO7, HT7, HB6, HX7⟩
    · obtain rfl : i = xs.length := by omega
      have g0 : decide ((xs.length : Int) < (xs.length : Int)) = false := by simp
      have HM9 : Aside0 (ys.map (·.1) = ts.map fun x => (⟨x.id, x.l.map (shiftSp c.off)⟩ : Tr)) := ⟨by rw [HM.out, HXL.out, List.take_length]⟩
      clear HM
      go_wp2_with fail
      go_returns
      exact ⟨_, by rfl, ⟨ys, HM9.out, HO.out, HT.out⟩, HB.out⟩
end Go.Proofs.Ytdadnapfecmmdaa.P
namespace Go.Proofs.Ytdadnapfecmmdaa.P
open Go.RowKit Go.Proofs.YtdadnapfecmmdaaW.PrintWords Go.Proofs.YtdadnapfecmmdaaW.PrintLast Go.Proofs.YtdadnapfecmmdaaW.PrintMore
attribute [local go_sem] max2_int min2_int max_two min_two max_three min_three max_four min_four   -- for this text's walks alone
set_option linter.unusedVariables false
set_option linter.unusedSimpArgs false
def slices_Compare_int_int.l0 : Nat → List Int → List Int → List Int → Int → Int → Option (Int)
  | 0, _, _, _, _, _ => none
  | k + 1, x0, x1, x9, x10, x11 => if x11 < x10 then (if 0 ≤ x11 then (if x11 < (x9.length : Int) then (if x11 ≥ (x1.length : Int) then (some 1) else (if x11 < (x1.length : Int) then ((cmp_Compare_int.f (rd x9 x11) (rd x1 x11)).bind fun t208 => (if t208 = 0 then (slices_Compare_int_int.l0 k x0 x1 x9 x10 (wrap64 (x11 + 1))) else (some t208))) else (none))) else (none)) else (none)) else (if (x0.length : Int) < (x1.length : Int) then (some (-1)) else (some 0))
def slices_Compare_int_int.f (k : Nat) (l0 : List Int) (l1 : List Int) : Option (Int) := slices_Compare_int_int.l0 k l0 l1 l0 (l0.length : Int) 0
theorem slices_Compare_int_int.mono_l : ∀ k, (∀ y0 y1 y2 y3 y4, LeO (slices_Compare_int_int.l0 k y0 y1 y2 y3 y4) (slices_Compare_int_int.l0 (k + 1) y0 y1 y2 y3 y4))
  | 0 => fun _ _ _ _ _ r h => by simp [slices_Compare_int_int.l0] at h
  | k + 1 => by
    have ih0 := slices_Compare_int_int.mono_l k
    · intro y0 y1 y2 y3 y4
      unfold slices_Compare_int_int.l0
      repeat' first
      | (with_reducible exact ih0 _ _ _ _ _)
      | (with_reducible exact LeO.refl _)
      | (with_reducible exact LeO.none _)
      | (with_reducible refine LeO.ite ?_ ?_)
      | (with_reducible refine LeO.bind ?_ (fun _ => ?_))
      | exact ih0 _ _ _ _ _
      | exact LeO.none _
      | refine LeO.ite ?_ ?_
      | refine LeO.bind ?_ (fun _ => ?_)
theorem slices_Compare_int_int.mono : ∀ a0 a1 k, LeO (slices_Compare_int_int.f k a0 a1) (slices_Compare_int_int.f (k + 1) a0 a1) := by
  intro a0 a1 k
  have ih0 := slices_Compare_int_int.mono_l k
  unfold slices_Compare_int_int.f
  repeat' first
      | (with_reducible exact ih0 _ _ _ _ _)
      | (with_reducible exact LeO.refl _)
      | (with_reducible exact LeO.none _)
      | (with_reducible refine LeO.ite ?_ ?_)
      | (with_reducible refine LeO.bind ?_ (fun _ => ?_))
      | exact ih0 _ _ _ _ _
      | exact LeO.none _
      | refine LeO.ite ?_ ?_
      | refine LeO.bind ?_ (fun _ => ?_)
set_option maxHeartbeats 8000000 in
set_option maxRecDepth 100000 in
theorem slices_Compare_int_int.calls (k : Nat) (A0 : Option Addr) (c0 : Nat) (l0 : List Int) (A1 : Option Addr) (c1 : Nat) (l1 : List Int) (r : Int) (w : World) (hr0 : Kd.C (Kd.int .i64) w A0 l0.length l0) (hc0 : l0.length ≤ c0) (hr1 : Kd.C (Kd.int .i64) w A1 l1.length l1) (hc1 : l1.length ≤ c1) (h : slices_Compare_int_int.f k l0 l1 = some r) :
    Calls Try.prog 116 #[.slice A0 l0.length c0, .slice A1 l1.length c1] w fun e w' => e = .returned (.int .i64 r) ∧ Drawn0 w w' := by
  have HR0 := Aside0.mk hr0
  have HC0 := Aside0.mk hc0
  clear hr0 hc0
  have HR1 := Aside0.mk hr1
  have HC1 := Aside0.mk hc1
  clear hr1 hc1
  have H : (slices_Compare_int_int.l0 k l0 l1 l0 (l0.length : Int) 0) = some r := h
  clear h
  have H' := Aside0.mk H
  clear H
  go_enter Try.func116, Try.ntmps116
  go_wp2
  go_loopg [11] k (fun kq v11 w' => ∃ (x11_1 : Int), v11 = .int .i64 x11_1 ∧ Aside0 (slices_Compare_int_int.l0 kq l0 l1 l0 (l0.length : Int) x11_1 = some r) ∧ Aside0 (kq ≤ k) ∧ Drawn0 w w')
  case atStart => exact ⟨(0), (by first | rfl | (simp; done) | (simp [*]; done)), H', ⟨Nat.le_refl _⟩, by repeat (first | exact Drawn0.refl _ | apply Drawn0.step)⟩
  case round =>
    clear H'
    try clear c1
    try clear p2
    obtain ⟨x11_1, rfl, HA, HK1, ⟨m1, rfl⟩⟩ := hrel
    cases gk with
    | zero => exact absurd HA.out (by simp [slices_Compare_int_int.l0])
    | succ k1 =>
      have H := HA.out
      clear HA
      simp only [slices_Compare_int_int.l0] at H
      by_cases c3 : x11_1 < (l0.length : Int)
      · rw [if_pos c3] at H
        have c3b0 : decide (x11_1 < (l0.length : Int)) = true := decide_eq_true c3
        clear c3
        by_cases c4 : 0 ≤ x11_1
        · rw [if_pos c4] at H
          have c4b0 : decide (0 ≤ x11_1) = true := decide_eq_true c4
          clear c4
          by_cases c5 : x11_1 < (l0.length : Int)
          · rw [if_pos c5] at H
            have c5b0 : decide (x11_1 < (l0.length : Int)) = true := decide_eq_true c5
            clear c5
            by_cases c6 : x11_1 ≥ (l1.length : Int)
            · rw [if_pos c6] at H
              have c6b0 : decide ((l1.length : Int) ≤ x11_1) = true := decide_eq_true c6
              clear c6
              obtain rfl := Option.some.inj H
              have p206 : 0 ≤ (x11_1 : Int) := of_decide_eq_true (by first | (with_reducible assumption) | assumption)
              have q206 : x11_1 < (l0.length : Int) := of_decide_eq_true (by first | (with_reducible assumption) | assumption)
              obtain ⟨ad206, e206, hx206_0⟩ := Kd.at_int HR0.out x11_1 p206 q206
              cases e206
              replace p206 := eq_true p206
              replace q206 := eq_true q206
              go_wp2
              go_ret
              exact ⟨by first | rfl | (simp; done) | (simp [*]; done), by repeat (first | exact Drawn0.refl _ | apply Drawn0.step)⟩
            · rw [if_neg c6] at H
              have c6b0 : decide ((l1.length : Int) ≤ x11_1) = false := decide_eq_false c6
              clear c6
              by_cases c7 : x11_1 < (l1.length : Int)
              · rw [if_pos c7] at H
                have c7b0 : decide (x11_1 < (l1.length : Int)) = true := decide_eq_true c7
                clear c7
                replace H := Option.bind_eq_some_iff.mp H
                obtain ⟨t208, A80, H⟩ := H
                replace H : (if t208 = 0 then (slices_Compare_int_int.l0 k1 l0 l1 l0 (l0.length : Int) (wrap64 (x11_1 + 1))) else (some t208)) = some r := H
                have A8 := Aside0.mk A80
                clear A80
                by_cases c9 : t208 = 0
                · rw [if_pos c9] at H
                  have c9b0 : (t208 == 0) = true := beq_iff_eq.mpr c9
                  have c9b1 : (t208 != 0) = false := bne_eq_false_iff_eq.mpr c9
                  clear c9
                  have H' := Aside0.mk H
                  clear H
                  have p206 : 0 ≤ (x11_1 : Int) := of_decide_eq_true (by first | (with_reducible assumption) | assumption)
                  have q206 : x11_1 < (l0.length : Int) := of_decide_eq_true (by first | (with_reducible assumption) | assumption)
                  obtain ⟨ad206, e206, hx206_0⟩ := Kd.at_int HR0.out x11_1 p206 q206
                  cases e206
                  replace p206 := eq_true p206
                  replace q206 := eq_true q206
                  have p207 : 0 ≤ (x11_1 : Int) := of_decide_eq_true (by first | (with_reducible assumption) | assumption)
                  have q207 : x11_1 < (l1.length : Int) := of_decide_eq_true (by first | (with_reducible assumption) | assumption)
                  obtain ⟨ad207, e207, hx207_0⟩ := Kd.at_int HR1.out x11_1 p207 q207
                  cases e207
                  replace p207 := eq_true p207
                  replace q207 := eq_true q207
                  go_wp2_with (first | ((with_reducible refine gate_callee (f := 64) rfl ?_); refine goesL_ (some 26) rfl rfl Try.func64 (by kernel_rfl) rfl #[.int .i64 (rd l0 x11_1), .int .i64 (rd l1 x11_1)] rfl (by (try simp only [List.map_toArray, List.map_cons, List.map_nil]); first | done | rfl | (simp only [List.length_drop, List.length_take]; rfl)) ?_; (with_reducible refine (cmp_Compare_int.calls (rd l0 x11_1) (rd l1 x11_1) t208 _ A8.out).mono ?_); rintro e w' ⟨rfl, ⟨nd, rfl⟩⟩; refine ⟨_, rfl, ?_⟩))
                  go_roundg k1
                  case measure => have := HK1.out; omega
                  case rel => exact ⟨(wrap64 (x11_1 + 1)), (by first | rfl | (simp; done) | (simp [*]; done)), H', ⟨by have := HK1.out; omega⟩, by repeat (first | exact Drawn0.refl _ | apply Drawn0.step)⟩
                · rw [if_neg c9] at H
                  have c9b0 : (t208 == 0) = false := beq_eq_false_iff_ne.mpr c9
                  have c9b1 : (t208 != 0) = true := bne_iff_ne.mpr c9
                  obtain rfl := Option.some.inj H
                  have p206 : 0 ≤ (x11_1 : Int) := of_decide_eq_true (by first | (with_reducible assumption) | assumption)
                  have q206 : x11_1 < (l0.length : Int) := of_decide_eq_true (by first | (with_reducible assumption) | assumption)
                  obtain ⟨ad206, e206, hx206_0⟩ := Kd.at_int HR0.out x11_1 p206 q206
                  cases e206
                  replace p206 := eq_true p206
                  replace q206 := eq_true q206
                  have p207 : 0 ≤ (x11_1 : Int) := of_decide_eq_true (by first | (with_reducible assumption) | assumption)
                  have q207 : x11_1 < (l1.length : Int) := of_decide_eq_true (by first | (with_reducible assumption) | assumption)
                  obtain ⟨ad207, e207, hx207_0⟩ := Kd.at_int HR1.out x11_1 p207 q207
                  cases e207
                  replace p207 := eq_true p207
                  replace q207 := eq_true q207
                  go_wp2_with (first | ((with_reducible refine gate_callee (f := 64) rfl ?_); refine goesL_ (some 26) rfl rfl Try.func64 (by kernel_rfl) rfl #[.int .i64 (rd l0 x11_1), .int .i64 (rd l1 x11_1)] rfl (by (try simp only [List.map_toArray, List.map_cons, List.map_nil]); first | done | rfl | (simp only [List.length_drop, List.length_take]; rfl)) ?_; (with_reducible refine (cmp_Compare_int.calls (rd l0 x11_1) (rd l1 x11_1) t208 _ A8.out).mono ?_); rintro e w' ⟨rfl, ⟨nd, rfl⟩⟩; refine ⟨_, rfl, ?_⟩))
                  go_ret
                  exact ⟨by first | rfl | (simp; done) | (simp [*]; done), by repeat (first | exact Drawn0.refl _ | apply Drawn0.step)⟩
              · rw [if_neg c7] at H
                exact absurd H (by simp)
          · rw [if_neg c5] at H
            exact absurd H (by simp)
        · rw [if_neg c4] at H
          exact absurd H (by simp)
      · rw [if_neg c3] at H
        have c3b0 : decide (x11_1 < (l0.length : Int)) = false := decide_eq_false c3
        clear c3
        by_cases c10 : (l0.length : Int) < (l1.length : Int)
        · rw [if_pos c10] at H
          have c10b0 : decide ((l0.length : Int) < (l1.length : Int)) = true := decide_eq_true c10
          have c10b1 : decide (l0.length < l1.length) = true := decide_eq_true (Int.ofNat_lt.mp c10)
          clear c10
          obtain rfl := Option.some.inj H
          go_wp2
          go_ret
          exact ⟨by first | rfl | (simp; done) | (simp [*]; done), by repeat (first | exact Drawn0.refl _ | apply Drawn0.step)⟩
        · rw [if_neg c10] at H
          have c10b0 : decide ((l0.length : Int) < (l1.length : Int)) = false := decide_eq_false c10
          have c10b1 : decide (l0.length < l1.length) = false := decide_eq_false (fun h => c10 (Int.ofNat_lt.mpr h))
          clear c10
          obtain rfl := Option.some.inj H
          go_wp2
          go_ret
          exact ⟨by first | rfl | (simp; done) | (simp [*]; done), by repeat (first | exact Drawn0.refl _ | apply Drawn0.step)⟩
def span_number.f (a0 : Bool) : Option (Int) := if a0 = true then (some 1) else (some 0)
set_option maxHeartbeats 8000000 in
set_option maxRecDepth 100000 in
theorem span_number.calls (a0 : Bool) (r : Int) (w : World) (h : span_number.f a0 = some r) :
    Calls Try.prog 117 #[.bool a0] w fun e w' => e = .returned (.int .i64 r) ∧ Drawn0 w w' := by
  have H : (if a0 = true then (some 1) else (some 0)) = some r := h
  clear h
  by_cases c2 : a0 = true
  · subst c2
    have H1 : (some 1) = some r := by rw [if_pos rfl] at H; exact H
    clear H
    have H := H1
    clear H1
    obtain rfl := Option.some.inj H
    go_enter Try.func117, Try.ntmps117
    go_wp2
    go_ret
    exact ⟨by first | rfl | (simp; done) | (simp [*]; done), by repeat (first | exact Drawn0.refl _ | apply Drawn0.step)⟩
  · replace c2 := Bool.eq_false_iff.mpr c2
    subst c2
    have H1 : (some 0) = some r := by rw [if_neg (show ¬ (false = true) by decide)] at H; exact H
    clear H
    have H := H1
    clear H1
    obtain rfl := Option.some.inj H
    go_enter Try.func117, Try.ntmps117
    go_wp2
    go_ret
    exact ⟨by first | rfl | (simp; done) | (simp [*]; done), by repeat (first | exact Drawn0.refl _ | apply Drawn0.step)⟩
end Go.Proofs.Ytdadnapfecmmdaa.P
namespace Go.Proofs.Ytdadnapfecmmdaa.P
set_option linter.unusedVariables false
set_option linter.unusedSimpArgs false
open Go.RowKit Go.Proofs.YtdadnapfecmmdaaW.PrintWords Go.Proofs.YtdadnapfecmmdaaW.PrintLast Go.Proofs.YtdadnapfecmmdaaW.PrintMore
open Go.Proofs.Ytdadnapfecmmdaa.Hm
abbrev sv14 (s : Sp) (A12 : Option Addr) (c12 : Nat) (A13 : Option Addr) (c13 : Nat) : Array Value := #[.int .i64 s.tr, .int .i64 s.id, .int .i64 s.par, .int .i64 s.rev, .int .i64 s.clk, .int .i64 s.kind, .string s.svc, .string s.ver, .string s.op, .int .i64 s.st, .int .i64 s.en, .bool s.err, .slice A12 0 c12, .slice A13 0 c13]
theorem cmpattr_nil (A : Option Addr) (c : Nat) (B : Option Addr) (d : Nat) (v : Value) (w : World) : Calls Try.prog 131 #[.slice A 0 c, .slice B 0 d, v] w fun e w' => e = .returned (.int .i64 0) ∧ Below w.heap.size w w' := by
  go_enter Try.func131, Try.ntmps131
  go_wp2_with fail
  go_loopg [7, 8, 9, 10, 13] 0 (fun gg s7 s8 s9 s10 s13 wr => s13 = .int .i64 0 ∧ Aside0 (Below w.heap.size w wr))
  case atStart => exact ⟨rfl, ⟨Below.refl _ _⟩⟩
  case round =>
  obtain ⟨rfl, HB⟩ := hrel
  go_wp2
  go_ret
  exact ⟨rfl, HB.out⟩
theorem cmplinks_nil (A : Option Addr) (c : Nat) (B : Option Addr) (d : Nat) (v : Value) (w : World) : Calls Try.prog 119 #[.slice A 0 c, .slice B 0 d, v] w fun e w' => e = .returned (.int .i64 0) ∧ Below w.heap.size w w' := by
  go_enter Try.func119, Try.ntmps119
  go_wp2_with fail
  go_loopg [7, 8, 9, 10, 13] 0 (fun gg s7 s8 s9 s10 s13 wr => s13 = .int .i64 0 ∧ Aside0 (Below w.heap.size w wr))
  case atStart => exact ⟨rfl, ⟨Below.refl _ _⟩⟩
  case round =>
  obtain ⟨rfl, HB⟩ := hrel
  go_wp2
  go_ret
  exact ⟨rfl, HB.out⟩
theorem cmpattrs_nil (A : Option Addr) (c : Nat) (B : Option Addr) (d : Nat) (w : World) : Calls Try.prog 118 #[.slice A 0 c, .slice B 0 d] w fun e w' => e = .returned (.int .i64 0) ∧ Below w.heap.size w w' := by
  go_enter Try.func118, Try.ntmps118
  go_wp2_with fail
  refine (cmpattr_nil _ _ _ _ _ _).mono ?_
  rintro e w1 ⟨rfl, hb⟩
  go_wp2_with fail
  go_ret
  exact ⟨rfl, hb⟩
theorem cs_eq (a : ByteArray) (w : World) : Calls Try.prog 103 #[.string a, .string a] w fun e w' => e = .returned (.int .i64 0) ∧ Below w.heap.size w w' := by
  refine (cmp_Compare_string.calls a a 0 w ?_).mono ?_
  · have hb : ∀ l, Op.bytesLess l l = false := by
      intro l
      induction l with
      | nil => rfl
      | cons x r ih => simp [Op.bytesLess, ih]
    unfold cmp_Compare_string.f cmpStr
    rw [hb, if_neg (by decide), if_pos rfl]
  · rintro e w' ⟨rfl, hb⟩
    first | exact ⟨rfl, hb⟩ | (obtain ⟨nd, rfl⟩ := hb; exact ⟨rfl, pw_below_drewN (Below.refl _ _) nd⟩)
theorem ci_eq0 (a : Int) : cmp_Compare_int.f a a = some 0 := by
  unfold cmp_Compare_int.f cmp_isNaN_int.f
  simp
theorem ci_eq (a : Int) (w : World) : Calls Try.prog 64 #[.int .i64 a, .int .i64 a] w fun e w' => e = .returned (.int .i64 0) ∧ Below w.heap.size w w' := by
  refine (cmp_Compare_int.calls a a 0 w (ci_eq0 a)).mono ?_
  rintro e w' ⟨rfl, hb⟩
  first | exact ⟨rfl, hb⟩ | (obtain ⟨nd, rfl⟩ := hb; exact ⟨rfl, pw_below_drewN (Below.refl _ _) nd⟩)
theorem number_ex (b : Bool) : ∃ n, ∀ w, Calls Try.prog 117 #[.bool b] w fun e w' => e = .returned (.int .i64 n) ∧ Below w.heap.size w w' := by
  obtain ⟨n, hn⟩ : ∃ n, span_number.f b = some n := by cases b <;> exact ⟨_, rfl⟩
  refine ⟨n, fun w => (span_number.calls b n w hn).mono ?_⟩
  rintro e w' ⟨rfl, hb⟩
  first | exact ⟨rfl, hb⟩ | (obtain ⟨nd, rfl⟩ := hb; exact ⟨rfl, pw_below_drewN (Below.refl _ _) nd⟩)
theorem six_C {W : World} {g : Nat} {t : TypeId} {a0 a1 a2 a3 a4 a5 : Int} (h : W.heap[g]? = some (.cells #[.int .i64 a0, .int .i64 a1, .int .i64 a2, .int .i64 a3, .int .i64 a4, .int .i64 a5] t (0, 0))) : Kd.C (Kd.int .i64) W (some ⟨g, 0, none⟩) 6 [a0, a1, a2, a3, a4, a5] := by
  refine ⟨rfl, by decide, fun _ => ⟨⟨g, 0, none⟩, rfl, fun j y hy => ⟨[.int .i64 y], rfl, rfl, fun i u hu => ?_⟩⟩⟩
  have hi : i = 0 := by
    have := (List.getElem?_eq_some_iff.mp hu).1
    simpa using this
  subst hi
  have hc := blk_cell h j
  match j with
  | 0 | 1 | 2 | 3 | 4 | 5 =>
    simp at hy hu
    subst hy hu
    exact hc.trans rfl
  | j + 6 => simp at hy
theorem compare_six (a0 a1 a2 a3 a4 a5 : Int) : slices_Compare_int_int.f 20 [a0, a1, a2, a3, a4, a5] [a0, a1, a2, a3, a4, a5] = some 0 := by
  unfold slices_Compare_int_int.f
  simp [slices_Compare_int_int.l0, ci_eq0, wrap64]
theorem six_calls (A B : Option Addr) (a0 a1 a2 a3 a4 a5 : Int) (W : World) (hA : Kd.C (Kd.int .i64) W A 6 [a0, a1, a2, a3, a4, a5]) (hB : Kd.C (Kd.int .i64) W B 6 [a0, a1, a2, a3, a4, a5]) :
    Calls Try.prog 116 #[.slice A 6 6, .slice B 6 6] W fun e w' => e = .returned (.int .i64 0) ∧ Below W.heap.size W w' := by
  refine (slices_Compare_int_int.calls 20 A 6 [a0, a1, a2, a3, a4, a5] B 6 [a0, a1, a2, a3, a4, a5] 0 W hA (Nat.le_refl _) hB (Nat.le_refl _) (compare_six _ _ _ _ _ _)).mono ?_
  rintro e w' ⟨rfl, nd, rfl⟩
  exact ⟨rfl, pw_below_drewN (Below.refl _ _) nd⟩
theorem or_nine (A : Option Addr) (c : Nat) (W : World) (hl : 9 ≤ c) (hc : Kd.C (Kd.int .i64) W A 9 [0, 0, 0, 0, 0, 0, 0, 0, 0]) : Calls Try.prog 63 #[.slice A 9 c] W fun e w' => e = .returned (.int .i64 0) ∧ Below W.heap.size W w' := by
  refine (cmp_Or_int.calls 20 A c [0, 0, 0, 0, 0, 0, 0, 0, 0] 0 W hc hl (by kernel_rfl)).mono ?_
  rintro e w' ⟨rfl, hb⟩
  first | exact ⟨rfl, hb⟩ | (obtain ⟨nd, rfl⟩ := hb; exact ⟨rfl, pw_below_drewN (Below.refl _ _) nd⟩)
def scT.T3 : Bool × List (List Nat × List Nat) := (true, [([], []), ([], []), ([0, 1], [0, 1]), ([], []), ([3], [3]), ([], []), ([5], [5]), ([4, 6, 2], [4, 6]), ([], []), ([8], [8]), ([], []), ([10], [10]), ([9, 11, 7], [9, 11]), ([], []), ([13], [13]), ([], []), ([15], [15]), ([14, 16, 12], [14, 16]), ([], []), ([18], [18]), ([], []), ([20], [20]), ([19, 21, 17], [19, 21]), ([], []), ([23], [23]), ([], []), ([25], [25]), ([24, 26, 22], [24, 26]), ([], []), ([28], [28]), ([29, 27], [29]), ([], []), ([31], [31]), ([32, 30], [32]), ([30, 33], [30, 33]), ([], []), ([35], [35]), ([], []), ([37], [37]), ([36, 38, 33], [36, 38]), ([], []), ([40], [40]), ([], []), ([42], [42]), ([41, 43, 39], [41, 43]), ([2, 7, 12, 17, 22, 27, 34, 39, 44], [2, 7, 12, 17, 22, 27, 34, 39, 44]), ([45, 44], [45]), ([46, 46, 0, 1, 2, 3, 4, 5, 6, 7, 8, 9, 10, 11, 12, 13, 14, 15, 16, 17, 18, 19, 20, 21, 22, 23, 24, 25, 26, 27, 28, 29, 30, 31, 32, 33, 34, 35, 36, 37, 38, 39, 40, 41, 42, 43, 44, 45, 46], [46])])
def scT.B3 : List Nat := [0, 0, 3, 0, 8, 0, 32, 127, 0, 256, 0, 1024, 4095, 0, 8192, 0, 32768, 131071, 0, 262144, 0, 1048576, 4194303, 0, 8388608, 0, 33554432, 134217727, 0, 268435456, 1073741823, 0, 2147483648, 8589934591, 17179869183, 0, 34359738368, 0, 137438953472, 532575944703, 0, 1099511627776, 0, 4398046511104, 17575006175231, 35184372088831, 70368744177663, 140737488355327]
theorem scT.tab3 : rtab .any (opsOf Try.f88 3) = scT.T3 := by kernel_rfl
theorem scT.bits3 : waitsOk scT.T3.2 scT.B3 = true := by kernel_rfl
set_option maxHeartbeats 8000000 in
set_option maxRecDepth 100000 in
theorem cmpspan_eq (s : Sp) (A12 : Option Addr) (c12 : Nat) (A13 : Option Addr) (c13 : Nat) (B12 : Option Addr) (d12 : Nat) (B13 : Option Addr) (d13 : Nat) (w : World) : Calls Try.prog 88 #[.agg (sv14 s A12 c12 A13 c13), .agg (sv14 s B12 d12 B13 d13)] w fun e w' => e = .returned (.int .i64 0) ∧ Below w.heap.size w w' := by
  obtain ⟨n, hN⟩ := number_ex s.err
  have HN := Aside0.mk hN
  clear hN
  go_enter Try.func88, Try.ntmps88
  go_upto_region 3 with fail
  obtain ⟨W0, HW0⟩ : ∃ W0, W0 = (((w.alloc (.cells (sv14 s A12 c12 A13 c13) 56)).alloc (.cells (sv14 s B12 d12 B13 d13) 56)).alloc (.cells #[.int .i64 s.tr, .int .i64 s.id, .int .i64 s.rev, .int .i64 s.par, .int .i64 s.clk, .int .i64 s.kind] 183)).alloc (.cells #[.int .i64 s.tr, .int .i64 s.id, .int .i64 s.rev, .int .i64 s.par, .int .i64 s.clk, .int .i64 s.kind] 183) := ⟨_, rfl⟩
  have hb0 : Below w.heap.size w W0 := by
    rw [HW0]
    repeat (first | exact Below.refl _ _ | apply below_alloc)
  have ha : W0.heap[w.heap.size]? = some (.cells (sv14 s A12 c12 A13 c13) 56 (0, 0)) := by
    rw [HW0]
    exact blk_alloc (blk_alloc (blk_alloc (blk_new w _) _) _) _
  have hbb : W0.heap[w.heap.size + 1]? = some (.cells (sv14 s B12 d12 B13 d13) 56 (0, 0)) := by
    rw [HW0]
    refine blk_alloc (blk_alloc ?_ _) _
    simpa using blk_new (w.alloc (.cells (sv14 s A12 c12 A13 c13) 56)) (.cells (sv14 s B12 d12 B13 d13) 56)
  have hxx : W0.heap[w.heap.size + 1 + 1]? = some (.cells #[.int .i64 s.tr, .int .i64 s.id, .int .i64 s.rev, .int .i64 s.par, .int .i64 s.clk, .int .i64 s.kind] 183 (0, 0)) := by
    rw [HW0]
    refine blk_alloc ?_ _
    simpa using blk_new ((w.alloc (.cells (sv14 s A12 c12 A13 c13) 56)).alloc (.cells (sv14 s B12 d12 B13 d13) 56)) (.cells #[.int .i64 s.tr, .int .i64 s.id, .int .i64 s.rev, .int .i64 s.par, .int .i64 s.clk, .int .i64 s.kind] 183)
  have hyy : W0.heap[w.heap.size + 1 + 1 + 1]? = some (.cells #[.int .i64 s.tr, .int .i64 s.id, .int .i64 s.rev, .int .i64 s.par, .int .i64 s.clk, .int .i64 s.kind] 183 (0, 0)) := by
    rw [HW0]
    simpa using blk_new (((w.alloc (.cells (sv14 s A12 c12 A13 c13) 56)).alloc (.cells (sv14 s B12 d12 B13 d13) 56)).alloc (.cells #[.int .i64 s.tr, .int .i64 s.id, .int .i64 s.rev, .int .i64 s.par, .int .i64 s.clk, .int .i64 s.kind] 183)) (.cells #[.int .i64 s.tr, .int .i64 s.id, .int .i64 s.rev, .int .i64 s.par, .int .i64 s.clk, .int .i64 s.kind] 183)
  rw [← HW0]
  clear HW0
  have HB0 := Aside0.mk hb0
  have HC := Aside0.mk (fun W (hb : Below W0.heap.size W0 W) => six_calls _ _ s.tr s.id s.rev s.par s.clk s.kind W (Kd.C_below (six_C hxx) hb) (Kd.C_below (six_C hyy) hb))
  have x6 : W0.cell? ⟨w.heap.size, 6, none⟩ = some (.string s.svc) := (blk_cell ha 6).trans rfl
  have x7 : W0.cell? ⟨w.heap.size, 7, none⟩ = some (.string s.ver) := (blk_cell ha 7).trans rfl
  have x8 : W0.cell? ⟨w.heap.size, 8, none⟩ = some (.string s.op) := (blk_cell ha 8).trans rfl
  have x9 : W0.cell? ⟨w.heap.size, 9, none⟩ = some (.int .i64 s.st) := (blk_cell ha 9).trans rfl
  have x10 : W0.cell? ⟨w.heap.size, 10, none⟩ = some (.int .i64 s.en) := (blk_cell ha 10).trans rfl
  have x11 : W0.cell? ⟨w.heap.size, 11, none⟩ = some (.bool s.err) := (blk_cell ha 11).trans rfl
  have x12 : W0.cell? ⟨w.heap.size, 12, none⟩ = some (.slice A12 0 c12) := (blk_cell ha 12).trans rfl
  have x13 : W0.cell? ⟨w.heap.size, 13, none⟩ = some (.slice A13 0 c13) := (blk_cell ha 13).trans rfl
  have y6 : W0.cell? ⟨w.heap.size + 1, 6, none⟩ = some (.string s.svc) := (blk_cell hbb 6).trans rfl
  have y7 : W0.cell? ⟨w.heap.size + 1, 7, none⟩ = some (.string s.ver) := (blk_cell hbb 7).trans rfl
  have y8 : W0.cell? ⟨w.heap.size + 1, 8, none⟩ = some (.string s.op) := (blk_cell hbb 8).trans rfl
  have y9 : W0.cell? ⟨w.heap.size + 1, 9, none⟩ = some (.int .i64 s.st) := (blk_cell hbb 9).trans rfl
  have y10 : W0.cell? ⟨w.heap.size + 1, 10, none⟩ = some (.int .i64 s.en) := (blk_cell hbb 10).trans rfl
  have y11 : W0.cell? ⟨w.heap.size + 1, 11, none⟩ = some (.bool s.err) := (blk_cell hbb 11).trans rfl
  have y12 : W0.cell? ⟨w.heap.size + 1, 12, none⟩ = some (.slice B12 0 d12) := (blk_cell hbb 12).trans rfl
  have y13 : W0.cell? ⟨w.heap.size + 1, 13, none⟩ = some (.slice B13 0 d13) := (blk_cell hbb 13).trans rfl
  clear ha hbb hxx hyy hb0
  refine start_ (n := 48) (S := fun w' => Below W0.heap.size W0 w') (ds := []) #[false, false, false, false, false, false, false, false, false, false, false, false, false, false, false, false, false, false, false, false, false, false, false, false, false, false, false, false, false, false, false, false, false, false, false, false, false, false, false, false, false, false, false, false, false, false, false, false] (by kernel_rfl) rfl rfl (Below.refl _ _).drew (fun hHeld => ?_)
  refine with_tabW scT.tab3 scT.bits3 (fun HT_ HW_ => ?_)
  generalize W0.drew = wd at hHeld ⊢
  refine pu_ 0 (some 33) (bq 48 1) HT_ rfl rfl ?_
  refine pu_ 1 (some 34) (bq 48 3) HT_ rfl rfl ?_
  refine pu_ 3 (some 36) (bq 48 11) HT_ rfl rfl ?_
  refine tk_ 4 (some 37) (bq 48 27) HT_ HW_ rfl rfl hHeld ?_ (by intro w' hS; replace x6 := below_at hS x6; go_simp; with_reducible rfl)
  refine pu_ 5 (some 38) (bq 48 59) HT_ rfl rfl ?_
  refine tk_ 6 (some 39) (bq 48 123) HT_ HW_ rfl rfl hHeld ?_ (by intro w' hS; replace y6 := below_at hS y6; go_simp; with_reducible rfl)
  refine pu_ 8 (some 41) (bq 48 379) HT_ rfl rfl ?_
  refine tk_ 9 (some 42) (bq 48 891) HT_ HW_ rfl rfl hHeld ?_ (by intro w' hS; replace x7 := below_at hS x7; go_simp; with_reducible rfl)
  refine pu_ 10 (some 43) (bq 48 1915) HT_ rfl rfl ?_
  refine tk_ 11 (some 44) (bq 48 3963) HT_ HW_ rfl rfl hHeld ?_ (by intro w' hS; replace y7 := below_at hS y7; go_simp; with_reducible rfl)
  refine pu_ 13 (some 46) (bq 48 12155) HT_ rfl rfl ?_
  refine tk_ 14 (some 47) (bq 48 28539) HT_ HW_ rfl rfl hHeld ?_ (by intro w' hS; replace x8 := below_at hS x8; go_simp; with_reducible rfl)
  refine pu_ 15 (some 48) (bq 48 61307) HT_ rfl rfl ?_
  refine tk_ 16 (some 49) (bq 48 126843) HT_ HW_ rfl rfl hHeld ?_ (by intro w' hS; replace y8 := below_at hS y8; go_simp; with_reducible rfl)
  refine pu_ 18 (some 51) (bq 48 388987) HT_ rfl rfl ?_
  refine tk_ 19 (some 52) (bq 48 913275) HT_ HW_ rfl rfl hHeld ?_ (by intro w' hS; replace x9 := below_at hS x9; go_simp; with_reducible rfl)
  refine pu_ 20 (some 53) (bq 48 1961851) HT_ rfl rfl ?_
  refine tk_ 21 (some 54) (bq 48 4059003) HT_ HW_ rfl rfl hHeld ?_ (by intro w' hS; replace y9 := below_at hS y9; go_simp; with_reducible rfl)
  refine pu_ 23 (some 56) (bq 48 12447611) HT_ rfl rfl ?_
  refine tk_ 24 (some 57) (bq 48 29224827) HT_ HW_ rfl rfl hHeld ?_ (by intro w' hS; replace x10 := below_at hS x10; go_simp; with_reducible rfl)
  refine pu_ 25 (some 58) (bq 48 62779259) HT_ rfl rfl ?_
  refine tk_ 26 (some 59) (bq 48 129888123) HT_ HW_ rfl rfl hHeld ?_ (by intro w' hS; replace y10 := below_at hS y10; go_simp; with_reducible rfl)
  refine pu_ 28 (some 61) (bq 48 398323579) HT_ rfl rfl ?_
  refine tk_ 29 (some 62) (bq 48 935194491) HT_ HW_ rfl rfl hHeld ?_ (by intro w' hS; replace x11 := below_at hS x11; go_simp; with_reducible rfl)
  refine pu_ 31 (some 64) (bq 48 3082678139) HT_ rfl rfl ?_
  refine tk_ 32 (some 65) (bq 48 7377645435) HT_ HW_ rfl rfl hHeld ?_ (by intro w' hS; replace y11 := below_at hS y11; go_simp; with_reducible rfl)
  refine pu_ 35 (some 68) (bq 48 41737383803) HT_ rfl rfl ?_
  refine tk_ 36 (some 69) (bq 48 110456860539) HT_ HW_ rfl rfl hHeld ?_ (by intro w' hS; replace x12 := below_at hS x12; go_simp; with_reducible rfl)
  refine pu_ 37 (some 70) (bq 48 247895814011) HT_ rfl rfl ?_
  refine tk_ 38 (some 71) (bq 48 522773720955) HT_ HW_ rfl rfl hHeld ?_ (by intro w' hS; replace y12 := below_at hS y12; go_simp; with_reducible rfl)
  refine pu_ 40 (some 73) (bq 48 1622285348731) HT_ rfl rfl ?_
  refine tk_ 41 (some 74) (bq 48 3821308604283) HT_ HW_ rfl rfl hHeld ?_ (by intro w' hS; replace x13 := below_at hS x13; go_simp; with_reducible rfl)
  refine pu_ 42 (some 75) (bq 48 8219355115387) HT_ rfl rfl ?_
  refine tk_ 43 (some 76) (bq 48 17015448137595) HT_ HW_ rfl rfl hHeld ?_ (by intro w' hS; replace y13 := below_at hS y13; go_simp; with_reducible rfl)
  refine one_ (i := 2) (N := some 35) #[true, true, true, true, true, true, true, false, true, true, true, true, false, true, true, true, true, false, true, true, true, true, false, true, true, true, true, false, true, true, false, true, true, false, false, true, true, true, true, false, true, true, true, true, false, false, false, false] rfl rfl (one_of HT_.out (by kernel_rfl)) (by decide) (fun K hK => ?_)
  refine goes_ Try.func116 (by kernel_rfl) rfl #[.slice (some ⟨w.heap.size + 1 + 1, 0, none⟩) 6 6, .slice (some ⟨w.heap.size + 1 + 1 + 1, 0, none⟩) 6 6] (by rfl) rfl rfl (by (try simp only [List.map_toArray, List.map_cons, List.map_nil]); first | done | rfl) ?_
  with_reducible refine (HC.out _ hHeld).mono ?_
  rintro e w2 ⟨rfl, hb⟩
  refine ⟨_, rfl, ?_⟩
  replace hHeld := below_step hHeld hb
  clear hb
  refine hK.out _ _ hHeld (fun hHeld => ?_)
  clear hK K
  refine norm_ (a' := ?_) ?_ ?_
  rotate_left
  · show Act.put _ (some 35) _ = _
    simp only [Act.put, List.setIfInBounds_toArray, List.set_cons_zero, List.set_cons_succ, i64_w, i32_w]
    rfl
  refine one_ (i := 7) (N := some 40) #[true, true, true, true, true, true, true, true, true, true, true, true, false, true, true, true, true, false, true, true, true, true, false, true, true, true, true, false, true, true, false, true, true, false, false, true, true, true, true, false, true, true, true, true, false, false, false, false] rfl rfl (one_of HT_.out (by kernel_rfl)) (by decide) (fun K hK => ?_)
  refine goes_ Try.func103 (by kernel_rfl) rfl #[.string s.svc, .string s.svc] (by rfl) rfl rfl (by (try simp only [List.map_toArray, List.map_cons, List.map_nil]); first | done | rfl) ?_
  with_reducible refine (cs_eq s.svc _).mono ?_
  rintro e w7 ⟨rfl, hb⟩
  refine ⟨_, rfl, ?_⟩
  replace hHeld := below_step hHeld hb
  clear hb
  refine hK.out _ _ hHeld (fun hHeld => ?_)
  clear hK K
  refine norm_ (a' := ?_) ?_ ?_
  rotate_left
  · show Act.put _ (some 40) _ = _
    simp only [Act.put, List.setIfInBounds_toArray, List.set_cons_zero, List.set_cons_succ, i64_w, i32_w]
    rfl
  refine one_ (i := 12) (N := some 45) #[true, true, true, true, true, true, true, true, true, true, true, true, true, true, true, true, true, false, true, true, true, true, false, true, true, true, true, false, true, true, false, true, true, false, false, true, true, true, true, false, true, true, true, true, false, false, false, false] rfl rfl (one_of HT_.out (by kernel_rfl)) (by decide) (fun K hK => ?_)
  refine goes_ Try.func103 (by kernel_rfl) rfl #[.string s.ver, .string s.ver] (by rfl) rfl rfl (by (try simp only [List.map_toArray, List.map_cons, List.map_nil]); first | done | rfl) ?_
  with_reducible refine (cs_eq s.ver _).mono ?_
  rintro e w12 ⟨rfl, hb⟩
  refine ⟨_, rfl, ?_⟩
  replace hHeld := below_step hHeld hb
  clear hb
  refine hK.out _ _ hHeld (fun hHeld => ?_)
  clear hK K
  refine norm_ (a' := ?_) ?_ ?_
  rotate_left
  · show Act.put _ (some 45) _ = _
    simp only [Act.put, List.setIfInBounds_toArray, List.set_cons_zero, List.set_cons_succ, i64_w, i32_w]
    rfl
  refine one_ (i := 17) (N := some 50) #[true, true, true, true, true, true, true, true, true, true, true, true, true, true, true, true, true, true, true, true, true, true, false, true, true, true, true, false, true, true, false, true, true, false, false, true, true, true, true, false, true, true, true, true, false, false, false, false] rfl rfl (one_of HT_.out (by kernel_rfl)) (by decide) (fun K hK => ?_)
  refine goes_ Try.func103 (by kernel_rfl) rfl #[.string s.op, .string s.op] (by rfl) rfl rfl (by (try simp only [List.map_toArray, List.map_cons, List.map_nil]); first | done | rfl) ?_
  with_reducible refine (cs_eq s.op _).mono ?_
  rintro e w17 ⟨rfl, hb⟩
  refine ⟨_, rfl, ?_⟩
  replace hHeld := below_step hHeld hb
  clear hb
  refine hK.out _ _ hHeld (fun hHeld => ?_)
  clear hK K
  refine norm_ (a' := ?_) ?_ ?_
  rotate_left
  · show Act.put _ (some 50) _ = _
    simp only [Act.put, List.setIfInBounds_toArray, List.set_cons_zero, List.set_cons_succ, i64_w, i32_w]
    rfl
  refine one_ (i := 22) (N := some 55) #[true, true, true, true, true, true, true, true, true, true, true, true, true, true, true, true, true, true, true, true, true, true, true, true, true, true, true, false, true, true, false, true, true, false, false, true, true, true, true, false, true, true, true, true, false, false, false, false] rfl rfl (one_of HT_.out (by kernel_rfl)) (by decide) (fun K hK => ?_)
  refine goes_ Try.func64 (by kernel_rfl) rfl #[.int .i64 s.st, .int .i64 s.st] (by rfl) rfl rfl (by (try simp only [List.map_toArray, List.map_cons, List.map_nil]); first | done | rfl) ?_
  with_reducible refine (ci_eq s.st _).mono ?_
  rintro e w22 ⟨rfl, hb⟩
  refine ⟨_, rfl, ?_⟩
  replace hHeld := below_step hHeld hb
  clear hb
  refine hK.out _ _ hHeld (fun hHeld => ?_)
  clear hK K
  refine norm_ (a' := ?_) ?_ ?_
  rotate_left
  · show Act.put _ (some 55) _ = _
    simp only [Act.put, List.setIfInBounds_toArray, List.set_cons_zero, List.set_cons_succ, i64_w, i32_w]
    rfl
  refine one_ (i := 27) (N := some 60) #[true, true, true, true, true, true, true, true, true, true, true, true, true, true, true, true, true, true, true, true, true, true, true, true, true, true, true, true, true, true, false, true, true, false, false, true, true, true, true, false, true, true, true, true, false, false, false, false] rfl rfl (one_of HT_.out (by kernel_rfl)) (by decide) (fun K hK => ?_)
  refine goes_ Try.func64 (by kernel_rfl) rfl #[.int .i64 s.en, .int .i64 s.en] (by rfl) rfl rfl (by (try simp only [List.map_toArray, List.map_cons, List.map_nil]); first | done | rfl) ?_
  with_reducible refine (ci_eq s.en _).mono ?_
  rintro e w27 ⟨rfl, hb⟩
  refine ⟨_, rfl, ?_⟩
  replace hHeld := below_step hHeld hb
  clear hb
  refine hK.out _ _ hHeld (fun hHeld => ?_)
  clear hK K
  refine norm_ (a' := ?_) ?_ ?_
  rotate_left
  · show Act.put _ (some 60) _ = _
    simp only [Act.put, List.setIfInBounds_toArray, List.set_cons_zero, List.set_cons_succ, i64_w, i32_w]
    rfl
  refine one_ (i := 30) (N := some 63) #[true, true, true, true, true, true, true, true, true, true, true, true, true, true, true, true, true, true, true, true, true, true, true, true, true, true, true, true, true, true, true, true, true, false, false, true, true, true, true, false, true, true, true, true, false, false, false, false] rfl rfl (one_of HT_.out (by kernel_rfl)) (by decide) (fun K hK => ?_)
  refine goes_ Try.func117 (by kernel_rfl) rfl #[.bool s.err] (by rfl) rfl rfl (by (try simp only [List.map_toArray, List.map_cons, List.map_nil]); first | done | rfl) ?_
  with_reducible refine (HN.out _).mono ?_
  rintro e w30 ⟨rfl, hb⟩
  refine ⟨_, rfl, ?_⟩
  replace hHeld := below_step hHeld hb
  clear hb
  refine hK.out _ _ hHeld (fun hHeld => ?_)
  clear hK K
  refine norm_ (a' := ?_) ?_ ?_
  rotate_left
  · show Act.put _ (some 63) _ = _
    simp only [Act.put, List.setIfInBounds_toArray, List.set_cons_zero, List.set_cons_succ, i64_w, i32_w]
    rfl
  refine one_ (i := 33) (N := some 66) #[true, true, true, true, true, true, true, true, true, true, true, true, true, true, true, true, true, true, true, true, true, true, true, true, true, true, true, true, true, true, true, true, true, true, false, true, true, true, true, false, true, true, true, true, false, false, false, false] rfl rfl (one_of HT_.out (by kernel_rfl)) (by decide) (fun K hK => ?_)
  refine goes_ Try.func117 (by kernel_rfl) rfl #[.bool s.err] (by rfl) rfl rfl (by (try simp only [List.map_toArray, List.map_cons, List.map_nil]); first | done | rfl) ?_
  with_reducible refine (HN.out _).mono ?_
  rintro e w33 ⟨rfl, hb⟩
  refine ⟨_, rfl, ?_⟩
  replace hHeld := below_step hHeld hb
  clear hb
  refine hK.out _ _ hHeld (fun hHeld => ?_)
  clear hK K
  refine norm_ (a' := ?_) ?_ ?_
  rotate_left
  · show Act.put _ (some 66) _ = _
    simp only [Act.put, List.setIfInBounds_toArray, List.set_cons_zero, List.set_cons_succ, i64_w, i32_w]
    rfl
  refine pu_ 34 (some 67) (bq 48 17042430230527) HT_ rfl rfl ?_ (hy := by intro w'; go_simp; rw [show IntKind.i64.wrap 0 = 0 from rfl])
  refine one_ (i := 39) (N := some 72) #[true, true, true, true, true, true, true, true, true, true, true, true, true, true, true, true, true, true, true, true, true, true, true, true, true, true, true, true, true, true, true, true, true, true, true, true, true, true, true, true, true, true, true, true, false, false, false, false] rfl rfl (one_of HT_.out (by kernel_rfl)) (by decide) (fun K hK => ?_)
  refine goes_ Try.func118 (by kernel_rfl) rfl #[.slice A12 0 c12, .slice B12 0 d12] (by rfl) rfl rfl (by (try simp only [List.map_toArray, List.map_cons, List.map_nil]); first | done | rfl) ?_
  with_reducible refine (cmpattrs_nil _ _ _ _ _).mono ?_
  rintro e w39 ⟨rfl, hb⟩
  refine ⟨_, rfl, ?_⟩
  replace hHeld := below_step hHeld hb
  clear hb
  refine hK.out _ _ hHeld (fun hHeld => ?_)
  clear hK K
  refine norm_ (a' := ?_) ?_ ?_
  rotate_left
  · show Act.put _ (some 72) _ = _
    simp only [Act.put, List.setIfInBounds_toArray, List.set_cons_zero, List.set_cons_succ, i64_w, i32_w]
    rfl
  refine one_ (i := 44) (N := some 77) #[true, true, true, true, true, true, true, true, true, true, true, true, true, true, true, true, true, true, true, true, true, true, true, true, true, true, true, true, true, true, true, true, true, true, true, true, true, true, true, true, true, true, true, true, true, false, false, false] rfl rfl (one_of HT_.out (by kernel_rfl)) (by decide) (fun K hK => ?_)
  refine goes_ Try.func119 (by kernel_rfl) rfl #[.slice A13 0 c13, .slice B13 0 d13, .func (.func 120) #[] #[]] (by rfl) rfl rfl (by (try simp only [List.map_toArray, List.map_cons, List.map_nil]); first | done | rfl) ?_
  with_reducible refine (cmplinks_nil _ _ _ _ _ _).mono ?_
  rintro e w44 ⟨rfl, hb⟩
  refine ⟨_, rfl, ?_⟩
  replace hHeld := below_step hHeld hb
  clear hb
  refine hK.out _ _ hHeld (fun hHeld => ?_)
  clear hK K
  refine norm_ (a' := ?_) ?_ ?_
  rotate_left
  · show Act.put _ (some 77) _ = _
    simp only [Act.put, List.setIfInBounds_toArray, List.set_cons_zero, List.set_cons_succ, i64_w, i32_w]
    rfl
  refine one_ (i := 45) (N := some 78) #[true, true, true, true, true, true, true, true, true, true, true, true, true, true, true, true, true, true, true, true, true, true, true, true, true, true, true, true, true, true, true, true, true, true, true, true, true, true, true, true, true, true, true, true, true, true, false, false] rfl rfl (one_of HT_.out (by kernel_rfl)) (by decide) (fun K hK => ?_)
  refine Kd.R_lit_step (Kd.int .i64) (w0 := W0) W0.heap.size 3 (by rfl) (N := 78) rfl (xs := [0, 0, 0, 0, 0, 0, 0, 0, 0]) (inner := [.int .i64 0, .int .i64 0, .int .i64 0, .int .i64 0, .int .i64 0, .int .i64 0, .int .i64 0, .int .i64 0, .int .i64 0]) (ok := fun _ => True) (okp := fun _ => False) (by go_simp) (Reps.one (show Kd.M (Kd.int .i64) _ _ _ 0 [.int .i64 0] from rfl) (Reps.one (show Kd.M (Kd.int .i64) _ _ _ 0 [.int .i64 0] from rfl) (Reps.one (show Kd.M (Kd.int .i64) _ _ _ 0 [.int .i64 0] from rfl) (Reps.one (show Kd.M (Kd.int .i64) _ _ _ 0 [.int .i64 0] from rfl) (Reps.one (show Kd.M (Kd.int .i64) _ _ _ 0 [.int .i64 0] from rfl) (Reps.one (show Kd.M (Kd.int .i64) _ _ _ 0 [.int .i64 0] from rfl) (Reps.one (show Kd.M (Kd.int .i64) _ _ _ 0 [.int .i64 0] from rfl) (Reps.one (show Kd.M (Kd.int .i64) _ _ _ 0 [.int .i64 0] from rfl) (Reps.one (show Kd.M (Kd.int .i64) _ _ _ 0 [.int .i64 0] from rfl) (Reps.none _ _)))))))))) (fun _ h => h.elim) trivial hHeld hHeld.size (by simp) ?_
  intro v54 W54 hr54 hb54 hg54 ho54
  obtain ⟨A5, c5, e5, hl5, hc5⟩ := Kd.R_reads hr54
  subst e5
  refine hK.out _ _ hb54 (fun hHeld => ?_)
  clear hK K
  refine norm_ (a' := ?_) ?_ ?_
  rotate_left
  · show Act.put _ (some 78) _ = _
    simp only [Act.put, List.setIfInBounds_toArray, List.set_cons_zero, List.set_cons_succ, i64_w, i32_w]
    rfl
  have HOR := Aside0.mk (or_nine A5 c5 _ hl5 hc5)
  clear hr54 hg54 ho54 hb54
  refine one_ (i := 46) (N := some 79) #[true, true, true, true, true, true, true, true, true, true, true, true, true, true, true, true, true, true, true, true, true, true, true, true, true, true, true, true, true, true, true, true, true, true, true, true, true, true, true, true, true, true, true, true, true, true, true, false] rfl rfl (one_of HT_.out (by kernel_rfl)) (by decide) (fun K hK => ?_)
  refine goes_ Try.func63 (by kernel_rfl) rfl #[.slice A5 9 c5] (by rfl) rfl rfl (by (try simp only [List.map_toArray, List.map_cons, List.map_nil]); first | done | rfl) ?_
  with_reducible refine (HOR.out).mono ?_
  rintro e w46 ⟨rfl, hb⟩
  refine ⟨_, rfl, ?_⟩
  replace hHeld := below_step hHeld hb
  clear hb
  refine hK.out _ _ hHeld (fun hHeld => ?_)
  clear hK K
  refine norm_ (a' := ?_) ?_ ?_
  rotate_left
  · show Act.put _ (some 79) _ = _
    simp only [Act.put, List.setIfInBounds_toArray, List.set_cons_zero, List.set_cons_succ, i64_w, i32_w]
    rfl
  refine pu_ 47 (some 4) (bq 48 281474976710655) HT_ rfl rfl ?_
  refine done_ (done_of HT_.out (by kernel_rfl)) ?_
  clear x6 y6 x7 y7 x8 y8 x9 y9 x10 y10 x11 y11 x12 y12 x13 y13 HC HN HOR
  go_wp2
  go_ret
  exact ⟨rfl, below_step HB0.out hHeld⟩
theorem equal_eq (s : Sp) (A12 : Option Addr) (c12 : Nat) (A13 : Option Addr) (c13 : Nat) (B12 : Option Addr) (d12 : Nat) (B13 : Option Addr) (d13 : Nat) (w : World) : Calls Try.prog 73 #[.agg (sv14 s A12 c12 A13 c13), .agg (sv14 s B12 d12 B13 d13)] w fun e w' => e = .returned (.bool true) ∧ Below w.heap.size w w' := by
  go_enter Try.func73, Try.ntmps73
  have hb0 : Below w.heap.size w ((w.alloc (.cells (sv14 s A12 c12 A13 c13) 56)).alloc (.cells (sv14 s B12 d12 B13 d13) 56)) := below_alloc (below_alloc (Below.refl _ _) _) _
  go_wp2_with fail
  refine (cmpspan_eq s A12 c12 A13 c13 B12 d12 B13 d13 _).mono ?_
  rintro e w1 ⟨rfl, hb⟩
  have HB := Aside0.mk (below_step hb0 hb)
  clear hb hb0
  go_wp2
  go_ret
  exact ⟨rfl, HB.out⟩
def ssT.T6 : Bool × List (List Nat × List Nat) := (true, [([], []), ([], []), ([0, 1], [0, 1]), ([2], [2]), ([], []), ([], []), ([4, 5], [4, 5]), ([6], [6]), ([3, 7], [3, 7]), ([8], [8])])
def ssT.B6 : List Nat := [0, 0, 3, 7, 0, 0, 48, 112, 255, 511]
theorem ssT.tab6 : rtab .any (opsOf Try.f42 6) = ssT.T6 := by kernel_rfl
theorem ssT.bits6 : waitsOk ssT.T6.2 ssT.B6 = true := by kernel_rfl
theorem rdS_at (l : List Sp) (i : Nat) (h : i < l.length) : rd_T56 (l.map toS) (i : Int) = toS l[i] := by
  unfold rd_T56
  simp [List.getD_eq_getElem?_getD, h]
theorem rdT_at (l : List Tr) (i : Nat) (h : i < l.length) : rd_T51 (l.map toT) (i : Int) = toT l[i] := by
  unfold rd_T51
  simp [List.getD_eq_getElem?_getD, h]
set_option maxHeartbeats 8000000 in
set_option maxRecDepth 100000 in
theorem sameSpans_eq (A : Option Addr) (c : Nat) (B : Option Addr) (d : Nat) (l : List Sp) (w : World) (hA : Kd.C k56 w A l.length (l.map toS)) (hB : Kd.C k56 w B l.length (l.map toS)) :
    Calls Try.prog 42 #[.slice A l.length c, .slice B l.length d] w fun e w' => e = .returned (.bool true) ∧ Below w.heap.size w w' := by
  have HA := Aside0.mk hA
  have HB := Aside0.mk hB
  have hn : l.length ≤ 9223372036854775807 := hA.2.1
  clear hA hB
  go_enter Try.func42, Try.ntmps42
  go_wp2_with fail
  go_loopg [5] l.length (fun gg s5 wr => ∃ i : Nat, i ≤ l.length ∧ l.length - i ≤ gg ∧ s5 = .int .i64 (i : Int) ∧ Aside0 (Below w.heap.size w wr))
  case atStart => exact ⟨0, Nat.zero_le _, by omega, rfl, ⟨Below.refl _ _⟩⟩
  case round =>
  obtain ⟨i, hi, hgi, rfl, HW⟩ := hrel
  by_cases hlt : i < l.length
  · obtain ⟨ad, A12, c12, A13, c13, e, a0, a1, a2, a3, a4, a5, a6, a7, a8, a9, a10, a11, a12, a13, -⟩ := at_T56 HA.out (i : Int) (by omega) (by omega)
    obtain ⟨ae, B12, d12, B13, d13, e2, b0, b1, b2, b3, b4, b5, b6, b7, b8, b9, b10, b11, b12, b13, -⟩ := at_T56 HB.out (i : Int) (by omega) (by omega)
    subst e e2
    rw [rdS_at l i hlt] at a0 a1 a2 a3 a4 a5 a6 a7 a8 a9 a10 a11 a12 a13 b0 b1 b2 b3 b4 b5 b6 b7 b8 b9 b10 b11 b12 b13
    generalize l[i] = s at a0 a1 a2 a3 a4 a5 a6 a7 a8 a9 a10 a11 a12 a13 b0 b1 b2 b3 b4 b5 b6 b7 b8 b9 b10 b11 b12 b13
    simp only [Int.toNat_natCast, toS, List.length_nil] at a0 a1 a2 a3 a4 a5 a6 a7 a8 a9 a10 a11 a12 a13 b0 b1 b2 b3 b4 b5 b6 b7 b8 b9 b10 b11 b12 b13
    replace a0 := (HW.out.cell (World.block_lt_of_cell? _ _ a0)).trans a0
    replace a1 := (HW.out.cell (World.block_lt_of_cell? _ _ a1)).trans a1
    replace a2 := (HW.out.cell (World.block_lt_of_cell? _ _ a2)).trans a2
    replace a3 := (HW.out.cell (World.block_lt_of_cell? _ _ a3)).trans a3
    replace a4 := (HW.out.cell (World.block_lt_of_cell? _ _ a4)).trans a4
    replace a5 := (HW.out.cell (World.block_lt_of_cell? _ _ a5)).trans a5
    replace a6 := (HW.out.cell (World.block_lt_of_cell? _ _ a6)).trans a6
    replace a7 := (HW.out.cell (World.block_lt_of_cell? _ _ a7)).trans a7
    replace a8 := (HW.out.cell (World.block_lt_of_cell? _ _ a8)).trans a8
    replace a9 := (HW.out.cell (World.block_lt_of_cell? _ _ a9)).trans a9
    replace a10 := (HW.out.cell (World.block_lt_of_cell? _ _ a10)).trans a10
    replace a11 := (HW.out.cell (World.block_lt_of_cell? _ _ a11)).trans a11
    replace a12 := (HW.out.cell (World.block_lt_of_cell? _ _ a12)).trans a12
    replace a13 := (HW.out.cell (World.block_lt_of_cell? _ _ a13)).trans a13
    replace b0 := (HW.out.cell (World.block_lt_of_cell? _ _ b0)).trans b0
    replace b1 := (HW.out.cell (World.block_lt_of_cell? _ _ b1)).trans b1
    replace b2 := (HW.out.cell (World.block_lt_of_cell? _ _ b2)).trans b2
    replace b3 := (HW.out.cell (World.block_lt_of_cell? _ _ b3)).trans b3
    replace b4 := (HW.out.cell (World.block_lt_of_cell? _ _ b4)).trans b4
    replace b5 := (HW.out.cell (World.block_lt_of_cell? _ _ b5)).trans b5
    replace b6 := (HW.out.cell (World.block_lt_of_cell? _ _ b6)).trans b6
    replace b7 := (HW.out.cell (World.block_lt_of_cell? _ _ b7)).trans b7
    replace b8 := (HW.out.cell (World.block_lt_of_cell? _ _ b8)).trans b8
    replace b9 := (HW.out.cell (World.block_lt_of_cell? _ _ b9)).trans b9
    replace b10 := (HW.out.cell (World.block_lt_of_cell? _ _ b10)).trans b10
    replace b11 := (HW.out.cell (World.block_lt_of_cell? _ _ b11)).trans b11
    replace b12 := (HW.out.cell (World.block_lt_of_cell? _ _ b12)).trans b12
    replace b13 := (HW.out.cell (World.block_lt_of_cell? _ _ b13)).trans b13
    have hz1 : (i : Int) < (l.length : Int) := by omega
    go_upto_region 6 with fail
    refine start_ (n := 10) (S := fun w' => Below wr.heap.size wr w') (ds := []) #[false, false, false, false, false, false, false, false, false, false] (by kernel_rfl) rfl rfl (Below.refl _ _).drew (fun hHeld => ?_)
    refine with_tabW ssT.tab6 ssT.bits6 (fun HT_ HW_ => ?_)
    generalize wr.drew = wd at hHeld ⊢
    refine pu_ 0 (some 17) (bq 10 1) HT_ rfl rfl ?_
    refine pu_ 1 (some 18) (bq 10 3) HT_ rfl rfl ?_
    refine pu_ 2 (some 19) (bq 10 7) HT_ rfl rfl ?_
    refine tk_ 3 (some 20) (bq 10 15) HT_ HW_ rfl rfl hHeld ?_ (by intro w' hS; replace a0 := below_at hS a0; replace a1 := below_at hS a1; replace a2 := below_at hS a2; replace a3 := below_at hS a3; replace a4 := below_at hS a4; replace a5 := below_at hS a5; replace a6 := below_at hS a6; replace a7 := below_at hS a7; replace a8 := below_at hS a8; replace a9 := below_at hS a9; replace a10 := below_at hS a10; replace a11 := below_at hS a11; replace a12 := below_at hS a12; replace a13 := below_at hS a13; go_simp; with_reducible rfl)
    refine pu_ 4 (some 21) (bq 10 31) HT_ rfl rfl ?_
    refine pu_ 5 (some 22) (bq 10 63) HT_ rfl rfl ?_
    refine pu_ 6 (some 23) (bq 10 127) HT_ rfl rfl ?_
    refine tk_ 7 (some 24) (bq 10 255) HT_ HW_ rfl rfl hHeld ?_ (by intro w' hS; replace b0 := below_at hS b0; replace b1 := below_at hS b1; replace b2 := below_at hS b2; replace b3 := below_at hS b3; replace b4 := below_at hS b4; replace b5 := below_at hS b5; replace b6 := below_at hS b6; replace b7 := below_at hS b7; replace b8 := below_at hS b8; replace b9 := below_at hS b9; replace b10 := below_at hS b10; replace b11 := below_at hS b11; replace b12 := below_at hS b12; replace b13 := below_at hS b13; go_simp; with_reducible rfl)
    refine one_ (i := 8) (N := some 25) #[true, true, true, true, true, true, true, true, true, false] rfl rfl (one_of HT_.out (by kernel_rfl)) (by decide) (fun K hK => ?_)
    refine goes_ Try.func73 (by kernel_rfl) rfl #[.agg (sv14 s A12 c12 A13 c13), .agg (sv14 s B12 d12 B13 d13)] (by rfl) rfl rfl (by (try simp only [List.map_toArray, List.map_cons, List.map_nil]); first | done | rfl) ?_
    with_reducible refine (equal_eq s A12 c12 A13 c13 B12 d12 B13 d13 _).mono ?_
    rintro e w8 ⟨rfl, hb⟩
    refine ⟨_, rfl, ?_⟩
    replace hHeld := below_step hHeld hb
    clear hb
    refine hK.out _ _ hHeld (fun hHeld => ?_)
    clear hK K
    refine norm_ (a' := ?_) ?_ ?_
    rotate_left
    · show Act.put _ (some 25) _ = _
      simp only [Act.put, List.setIfInBounds_toArray, List.set_cons_zero, List.set_cons_succ, i64_w, i32_w]
      rfl
    refine pu_ 9 (some 26) (bq 10 1023) HT_ rfl rfl ?_
    refine done_ (done_of HT_.out (by kernel_rfl)) ?_
    have HW2 := Aside0.mk (below_step HW.out hHeld)
    clear hHeld HW a0 a1 a2 a3 a4 a5 a6 a7 a8 a9 a10 a11 a12 a13 b0 b1 b2 b3 b4 b5 b6 b7 b8 b9 b10 b11 b12 b13
    go_wp2
    go_roundg (l.length - (i + 1))
    case measure => omega
    case rel => exact ⟨i + 1, by omega, by omega, by first | rfl | go_num, HW2⟩
  · have hz1 : decide (i < l.length) = false := by simp; omega
    have hz2 : decide ((i : Int) < (l.length : Int)) = false := by simp; omega
    clear hlt
    go_wp2
    go_ret
    exact ⟨rfl, HW.out⟩
def stT.T6 : Bool × List (List Nat × List Nat) := (true, [([], []), ([], []), ([0, 1], [0, 1]), ([2], [2]), ([3], [3]), ([], []), ([], []), ([5, 6], [5, 6]), ([7], [7]), ([8], [8]), ([4, 9], [4, 9]), ([10], [10]), ([11], [11]), ([11], [11]), ([12, 13, 11], [11, 12, 13]), ([14, 11], [11, 14]), ([15, 11], [11, 15]), ([11], [11]), ([11], [11]), ([17, 18, 11], [11, 17, 18]), ([19, 11], [11, 19]), ([20, 11], [11, 20]), ([16, 21, 11], [11, 16, 21]), ([11, 22], [11, 22]), ([23, 11], [23]), ([24], [24]), ([24], [24]), ([25, 26, 24], [24, 25, 26]), ([27, 24], [24, 27]), ([28, 24], [24, 28]), ([24], [24]), ([24], [24]), ([30, 31, 24], [24, 30, 31]), ([32, 24], [24, 32]), ([33, 24], [24, 33]), ([29, 34, 24, 24], [24, 29, 34]), ([35, 24], [24, 35]), ([24, 36], [24, 36])])
def stT.B6 : List Nat := [0, 0, 3, 7, 15, 0, 0, 96, 224, 480, 1023, 2047, 4095, 4095, 16383, 32767, 65535, 4095, 4095, 397311, 921599, 1970175, 4194303, 8388607, 16777215, 33554431, 33554431, 134217727, 268435455, 536870911, 33554431, 33554431, 3254779903, 7549747199, 16139681791, 34359738367, 68719476735, 137438953471]
theorem stT.tab6 : rtab .any (opsOf Try.f20 6) = stT.T6 := by kernel_rfl
theorem stT.bits6 : waitsOk stT.T6.2 stT.B6 = true := by kernel_rfl
set_option maxHeartbeats 8000000 in
set_option maxRecDepth 100000 in
theorem sameTraces_eq (A : Option Addr) (c : Nat) (B : Option Addr) (d : Nat) (l : List Tr) (w : World) (hA : Kd.C k51 w A l.length (l.map toT)) (hB : Kd.C k51 w B l.length (l.map toT)) :
    Calls Try.prog 20 #[.slice A l.length c, .slice B l.length d] w fun e w' => e = .returned (.bool true) ∧ Below w.heap.size w w' := by
  have HA := Aside0.mk hA
  have HB := Aside0.mk hB
  have hn : l.length ≤ 9223372036854775807 := hA.2.1
  clear hA hB
  go_enter Try.func20, Try.ntmps20
  go_wp2_with fail
  go_loopg [5] l.length (fun gg s5 wr => ∃ i : Nat, i ≤ l.length ∧ l.length - i ≤ gg ∧ s5 = .int .i64 (i : Int) ∧ Aside0 (Below w.heap.size w wr))
  case atStart => exact ⟨0, Nat.zero_le _, by omega, rfl, ⟨Below.refl _ _⟩⟩
  case round =>
  obtain ⟨i, hi, hgi, rfl, HW⟩ := hrel
  by_cases hlt : i < l.length
  · obtain ⟨ad, A2, k2, e, t0, t1, t2, hk2, hC2⟩ := at_T51 HA.out (i : Int) (by omega) (by omega)
    obtain ⟨ae, B2, d2, e2, u0, u1, u2, hd2, hD2⟩ := at_T51 HB.out (i : Int) (by omega) (by omega)
    subst e e2
    rw [rdT_at l i hlt] at t0 t1 t2 u0 u1 u2 hC2 hD2
    generalize l[i] = x at t0 t1 t2 u0 u1 u2 hC2 hD2
    simp only [Int.toNat_natCast, toT, List.length_map] at t0 t1 t2 u0 u1 u2 hC2 hD2
    replace t0 := (HW.out.cell (World.block_lt_of_cell? _ _ t0)).trans t0
    replace t1 := (HW.out.cell (World.block_lt_of_cell? _ _ t1)).trans t1
    replace t2 := (HW.out.cell (World.block_lt_of_cell? _ _ t2)).trans t2
    replace u0 := (HW.out.cell (World.block_lt_of_cell? _ _ u0)).trans u0
    replace u1 := (HW.out.cell (World.block_lt_of_cell? _ _ u1)).trans u1
    replace u2 := (HW.out.cell (World.block_lt_of_cell? _ _ u2)).trans u2
    have HS := Aside0.mk (fun W (hb : Below wr.heap.size wr W) => sameSpans_eq A2 k2 B2 d2 x.l W (Kd.C_below hC2 (below_step HW.out hb)) (Kd.C_below hD2 (below_step HW.out hb)))
    generalize x.l.length = m at t2 u2 HS
    have hz1 : (i : Int) < (l.length : Int) := by omega
    clear hC2 hD2 hk2 hd2
    go_upto_region 6 with fail
    refine start_ (n := 38) (S := fun w' => Below wr.heap.size wr w') (ds := []) #[false, false, false, false, false, false, false, false, false, false, false, false, false, false, false, false, false, false, false, false, false, false, false, false, false, false, false, false, false, false, false, false, false, false, false, false, false, false] (by kernel_rfl) rfl rfl (Below.refl _ _).drew (fun hHeld => ?_)
    refine with_tabW stT.tab6 stT.bits6 (fun HT_ HW_ => ?_)
    generalize wr.drew = wd at hHeld ⊢
    refine pu_ 0 (some 17) (bq 38 1) HT_ rfl rfl ?_
    refine pu_ 1 (some 18) (bq 38 3) HT_ rfl rfl ?_
    refine pu_ 2 (some 19) (bq 38 7) HT_ rfl rfl ?_
    refine pu_ 3 (some 20) (bq 38 15) HT_ rfl rfl ?_
    refine tk_ 4 (some 21) (bq 38 31) HT_ HW_ rfl rfl hHeld ?_ (by intro w' hS; replace t0 := below_at hS t0; go_simp; with_reducible rfl)
    refine pu_ 5 (some 22) (bq 38 63) HT_ rfl rfl ?_
    refine pu_ 6 (some 23) (bq 38 127) HT_ rfl rfl ?_
    refine pu_ 7 (some 24) (bq 38 255) HT_ rfl rfl ?_
    refine pu_ 8 (some 25) (bq 38 511) HT_ rfl rfl ?_
    refine tk_ 9 (some 26) (bq 38 1023) HT_ HW_ rfl rfl hHeld ?_ (by intro w' hS; replace u0 := below_at hS u0; go_simp; with_reducible rfl)
    refine pu_ 10 (some 27) (bq 38 2047) HT_ rfl rfl ?_
    refine pu_ 11 (some 28) (bq 38 4095) HT_ rfl rfl ?_
    refine pu_ 12 (some 29) (bq 38 8191) HT_ rfl rfl ?_
    refine pu_ 13 (some 30) (bq 38 16383) HT_ rfl rfl ?_
    refine pu_ 14 (some 31) (bq 38 32767) HT_ rfl rfl ?_
    refine pu_ 15 (some 32) (bq 38 65535) HT_ rfl rfl ?_
    refine tk_ 16 (some 33) (bq 38 131071) HT_ HW_ rfl rfl hHeld ?_ (by intro w' hS; replace t1 := below_at hS t1; go_simp; with_reducible rfl)
    refine pu_ 17 (some 34) (bq 38 262143) HT_ rfl rfl ?_
    refine pu_ 18 (some 35) (bq 38 524287) HT_ rfl rfl ?_
    refine pu_ 19 (some 36) (bq 38 1048575) HT_ rfl rfl ?_
    refine pu_ 20 (some 37) (bq 38 2097151) HT_ rfl rfl ?_
    refine tk_ 21 (some 38) (bq 38 4194303) HT_ HW_ rfl rfl hHeld ?_ (by intro w' hS; replace u1 := below_at hS u1; go_simp; with_reducible rfl)
    refine pu_ 22 (some 39) (bq 38 8388607) HT_ rfl rfl ?_
    refine pu_ 23 (some 40) (bq 38 16777215) HT_ rfl rfl ?_
    refine pu_ 24 (some 41) (bq 38 33554431) HT_ rfl rfl ?_
    refine pu_ 25 (some 42) (bq 38 67108863) HT_ rfl rfl ?_
    refine pu_ 26 (some 43) (bq 38 134217727) HT_ rfl rfl ?_
    refine pu_ 27 (some 44) (bq 38 268435455) HT_ rfl rfl ?_
    refine pu_ 28 (some 45) (bq 38 536870911) HT_ rfl rfl ?_
    refine tk_ 29 (some 46) (bq 38 1073741823) HT_ HW_ rfl rfl hHeld ?_ (by intro w' hS; replace t2 := below_at hS t2; go_simp; with_reducible rfl)
    refine pu_ 30 (some 47) (bq 38 2147483647) HT_ rfl rfl ?_
    refine pu_ 31 (some 48) (bq 38 4294967295) HT_ rfl rfl ?_
    refine pu_ 32 (some 49) (bq 38 8589934591) HT_ rfl rfl ?_
    refine pu_ 33 (some 50) (bq 38 17179869183) HT_ rfl rfl ?_
    refine tk_ 34 (some 51) (bq 38 34359738367) HT_ HW_ rfl rfl hHeld ?_ (by intro w' hS; replace u2 := below_at hS u2; go_simp; with_reducible rfl)
    refine one_ (i := 35) (N := some 52) #[true, true, true, true, true, true, true, true, true, true, true, true, true, true, true, true, true, true, true, true, true, true, true, true, true, true, true, true, true, true, true, true, true, true, true, true, false, false] rfl rfl (one_of HT_.out (by kernel_rfl)) (by decide) (fun K hK => ?_)
    refine goes_ Try.func42 (by kernel_rfl) rfl #[.slice A2 m k2, .slice B2 m d2] (by rfl) rfl rfl (by (try simp only [List.map_toArray, List.map_cons, List.map_nil]); first | done | rfl) ?_
    with_reducible refine (HS.out _ hHeld).mono ?_
    rintro e w8 ⟨rfl, hb⟩
    refine ⟨_, rfl, ?_⟩
    replace hHeld := below_step hHeld hb
    clear hb
    refine hK.out _ _ hHeld (fun hHeld => ?_)
    clear hK K
    refine norm_ (a' := ?_) ?_ ?_
    rotate_left
    · show Act.put _ (some 52) _ = _
      simp only [Act.put, List.setIfInBounds_toArray, List.set_cons_zero, List.set_cons_succ, i64_w, i32_w]
      rfl
    refine pu_ 36 (some 53) (bq 38 137438953471) HT_ rfl rfl ?_
    refine pu_ 37 (some 54) (bq 38 274877906943) HT_ rfl rfl ?_
    refine done_ (done_of HT_.out (by kernel_rfl)) ?_
    have HW2 := Aside0.mk (below_step HW.out hHeld)
    clear hHeld HW t0 t1 t2 u0 u1 u2 HS
    go_wp2
    go_roundg (l.length - (i + 1))
    case measure => omega
    case rel => exact ⟨i + 1, by omega, by omega, by first | rfl | go_num, HW2⟩
  · have hz1 : decide (i < l.length) = false := by simp; omega
    have hz2 : decide ((i : Int) < (l.length : Int)) = false := by simp; omega
    clear hlt
    go_wp2
    go_ret
    exact ⟨rfl, HW.out⟩
theorem TsOut.below' {b : Nat} {w w' : World} {ts : List Tr} {v : Value} (h : TsOut b w ts v) (hb : Below w.heap.size w w') : TsOut b w' ts v := by
  obtain ⟨xs, h1, h2, h3⟩ := h
  exact ⟨xs, h1, pw_own_below h2 hb, h3.below hb⟩
set_option maxHeartbeats 8000000 in
set_option maxRecDepth 100000 in
theorem makes_calls (p : Plan) (a : PlanAt) (w : World) (hR : PlanR w a p) (hok : PlanOk p) :
    Calls Try.prog 6 #[.agg (p.cells a)] w fun e w' => e = .returned (.bool true) ∧ Below w.heap.size w w' := by
  have HCF := Aside0.mk (fun W (hb : Below w.heap.size w W) => config_calls p a W (hR.below hb) hok)
  have HCK := Aside0.mk (ckAll_ok (cfg_valid p hok) 0)
  have HTV := Aside0.mk (plan_traces p hok id 110 (Nat.le_refl _))
  have HTS := Aside0.mk (plan_traces p hok (shiftSp (p.cfg chgs47).off) 110 (Nat.le_refl _))
  have HSY := Aside0.mk (plan_sys p hok)
  have hsf : 0 ≤ (p.cfg chgs47).sfrom := by have := hok.first; show 0 ≤ p.first % 8; omega
  have hst : (p.cfg chgs47).sto ≤ 100 := by show p.first % 8 + p.slots % 4 ≤ 100; omega
  have hss : (p.cfg chgs47).sfrom ≤ (p.cfg chgs47).sto := by show p.first % 8 ≤ p.first % 8 + p.slots % 4; omega
  have hpr : (p.cfg chgs47).per ≤ 10 := by show p.per % 3 ≤ 10; omega
  have hp0 : 0 ≤ (p.cfg chgs47).per := by show 0 ≤ p.per % 3; omega
  generalize p.cfg chgs47 = c at HCF HCK HTV HTS HSY hsf hst hss hpr hp0
  have HL := Aside0.mk (tracesI_len c hss hp0)
  have HSP := Aside0.mk (fun x hx => tracesI_spans HSY.out x hx)
  have HSH := Aside0.mk (tracesI_shift c (shiftSp c.off))
  have hne := HSY.out.n0
  have HLE : Aside0 (∀ x ∈ tracesI c id, x.l.length ≤ 1000) := ⟨fun x hx => by
    have h1 := (HSP.out x hx).1
    have h2 := cAt_le HSY.out 0
    have h3 : cntOf c.sv = cAt c.sv 0 := by
      unfold cntOf cAt
      rw [List.drop_zero, show (0 : Int) = ((0 : Nat) : Int) from rfl, rd_T64_get _ 0 (by omega), HSY.out.name 0 (by omega)]
    omega⟩
  have hS2 : (tracesI c id).length ≤ 10000 := by
    have h1 := HL.out
    have h2 : c.per * (c.sto - c.sfrom) ≤ 10 * (c.sto - c.sfrom) := Int.mul_le_mul_of_nonneg_right hpr (by omega)
    omega
  have HSW := Aside0.mk (fun W (p : CfgAt) (b : Nat) (v : Value) (hR : CfgR W p c) (ht : TsOut b W (tracesI c id) v) => mshown_calls c p b (tracesI c id) v W hR ht (fun x hx => (HSP.out x hx).2) HLE.out hS2)
  have HMT := Aside0.mk (fun W (p : CfgAt) (hR : CfgR W p c) => mtruth_calls c p W hR HSY.out hsf hst hpr)
  rw [HSH.out] at HTS
  generalize (tracesI c id).map (fun x => (⟨x.id, x.l.map (shiftSp c.off)⟩ : Tr)) = l2 at HTS HSW
  have hm1 : (tracesI c id).length = c.per * (c.sto - c.sfrom) := HL.out
  clear HSH HLE HL
  generalize tracesI c id = ts at HTV HSP HSW HMT hm1 hS2
  have s1 : IntKind.i64.wrap (c.sto - c.sfrom) = c.sto - c.sfrom := IntWalk.i64_in _ (by omega)
  have s2 : IntKind.i64.wrap (c.per * (c.sto - c.sfrom)) = (ts.length : Int) := by rw [← hm1]; exact IntWalk.i64_in _ (by omega)
  clear hR hok hm1 HSY
  go_enter Try.func6, Try.ntmps6
  go_wp2_with fail
  refine (HCF.out _ (below_alloc (Below.refl _ _) _)).mono ?_
  rintro e w1 ⟨⟨A1, c1, A2, c2, A3, c3, A4, c4⟩, rfl, hR1, hb1⟩
  have HR1 := Aside0.mk hR1.now
  have HB1 := Aside0.mk (below_step (below_alloc (Below.refl w.heap.size w) _) hb1)
  clear hR1 hb1 HCF
  go_upto_region 2 with fail
  have hbb : Below w1.heap.size w1 (w1.alloc (.cells (c.cells ⟨A1, c1, A2, c2, A3, c3, A4, c4⟩) 31)) := below_alloc (Below.refl _ _) _
  have HX1 := Aside0.mk (blk_new w1 (.cells (c.cells ⟨A1, c1, A2, c2, A3, c3, A4, c4⟩) 31))
  have HR2 := Aside0.mk (HR1.out.below hbb)
  have HB2 := Aside0.mk (below_step HB1.out hbb)
  clear hbb HR1 HB1
  generalize w1.alloc (.cells (c.cells ⟨A1, c1, A2, c2, A3, c3, A4, c4⟩) 31) = v1 at HX1 HR2 HB2 ⊢
  generalize w1.heap.size = gb at HX1 ⊢
  go_wp2_with fail
  refine (known_calls _).mono ?_
  rintro e w2 ⟨rfl, hb2⟩
  have HX2 := Aside0.mk (blk_below HX1.out hb2)
  have HR3 := Aside0.mk (HR2.out.below hb2)
  have HB3 := Aside0.mk (below_step HB2.out hb2)
  obtain ⟨q0, q1, q2, q3, q4, q5, q6, q7, q8, q9, q10, q11⟩ := cfg12 HX2.out
  clear HX1 HR2 HB2 hb2
  go_wp2_with fail
  refine (Count_ok 0 c ⟨A1, c1, A2, c2, A3, c3, A4, c4⟩ _ HR3.out HCK.out hne).mono ?_
  rintro e w3 ⟨rfl, hb3⟩
  have HX3 := Aside0.mk (blk_below HX2.out hb3)
  have HR4 := Aside0.mk (HR3.out.below hb3)
  have HB4 := Aside0.mk (below_step HB3.out hb3)
  clear HX2 HR3 HB3 hb3 q0 q1 q2 q3 q4 q5 q6 q7 q8 q9 q10 q11
  obtain ⟨q0, q1, q2, q3, q4, q5, q6, q7, q8, q9, q10, q11⟩ := cfg12 HX3.out
  go_wp2_with fail
  refine (Truth_ok 110 0 c ⟨A1, c1, A2, c2, A3, c3, A4, c4⟩ _ _ HR4.out HCK.out HTV.out).mono ?_
  rintro e w4 ⟨v, rfl, ht, hb4⟩
  obtain ⟨AL, cL, rfl, hcL, hCL⟩ := ht.reads
  rw [List.length_map] at hcL hCL
  rw [List.length_map]
  have HCL := Aside0.mk hCL
  have HX4 := Aside0.mk (blk_below HX3.out hb4)
  have HR5 := Aside0.mk (HR4.out.below hb4)
  have HB5 := Aside0.mk (below_step HB4.out hb4)
  clear HX3 HR4 HB4 hb4 ht hCL q0 q1 q2 q3 q4 q5 q6 q7 q8 q9 q10 q11
  obtain ⟨q0, q1, q2, q3, q4, q5, q6, q7, q8, q9, q10, q11⟩ := cfg12 HX4.out
  go_wp2_with fail
  refine (Traces_ok 110 0 c ⟨A1, c1, A2, c2, A3, c3, A4, c4⟩ _ _ HR5.out HCK.out HTS.out).mono ?_
  rintro e w5 ⟨v, rfl, ht, hb5⟩
  obtain ⟨AM, cM, rfl, hcM, hCM⟩ := ht.reads
  rw [List.length_map] at hcM hCM
  rw [List.length_map]
  have HCM := Aside0.mk hCM
  replace HCL := Aside0.mk (Kd.C_below HCL.out hb5)
  have HX5 := Aside0.mk (blk_below HX4.out hb5)
  have HR6 := Aside0.mk (HR5.out.below hb5)
  have HB6 := Aside0.mk (below_step HB5.out hb5)
  clear HX4 HR5 HB5 hb5 ht hCM q0 q1 q2 q3 q4 q5 q6 q7 q8 q9 q10 q11
  obtain ⟨q0, q1, q2, q3, q4, q5, q6, q7, q8, q9, q10, q11⟩ := cfg12 HX5.out
  go_wp2_with fail
  refine (HMT.out _ ⟨A1, c1, A2, c2, A3, c3, A4, c4⟩ HR6.out).mono ?_
  rintro e w6 ⟨v, rfl, ht, hb6⟩
  have HTW := Aside0.mk ht
  obtain ⟨AW, cW, rfl, hcW, hCW⟩ := ht.reads
  rw [List.length_map] at hcW hCW HTW
  rw [List.length_map]
  have HCW := Aside0.mk hCW
  replace HCL := Aside0.mk (Kd.C_below HCL.out hb6)
  replace HCM := Aside0.mk (Kd.C_below HCM.out hb6)
  have HX6 := Aside0.mk (blk_below HX5.out hb6)
  have HR7 := Aside0.mk (HR6.out.below hb6)
  have HB7 := Aside0.mk (below_step HB6.out hb6)
  clear HX5 HR6 HB6 hb6 ht hCW q0 q1 q2 q3 q4 q5 q6 q7 q8 q9 q10 q11
  obtain ⟨q0, q1, q2, q3, q4, q5, q6, q7, q8, q9, q10, q11⟩ := cfg12 HX6.out
  go_wp2_with fail
  refine (sameTraces_eq AL cL AW cW ts _ HCL.out HCW.out).mono ?_
  rintro e w7 ⟨rfl, hb7⟩
  have HTW7 := Aside0.mk (HTW.out.below' hb7)
  have HX7 := Aside0.mk (blk_below HX6.out hb7)
  have HCM7 := Aside0.mk (Kd.C_below HCM.out hb7)
  have HCL7 := Aside0.mk (Kd.C_below HCL.out hb7)
  have HB8 := Aside0.mk (below_step HB7.out hb7)
  have HB67 := Aside0.mk hb7
  clear HX6 hb7 q0 q1 q2 q3 q4 q5 q6 q7 q8 q9 q10 q11 HCM HCL HCW HB7
  obtain ⟨q0, q1, q2, q3, q4, q5, q6, q7, q8, q9, q10, q11⟩ := cfg12 HX7.out
  go_wp2_with fail
  refine (HSW.out _ ⟨A1, c1, A2, c2, A3, c3, A4, c4⟩ _ _ (HR7.out.below HB67.out) HTW7.out).mono ?_
  rintro e w8 ⟨v, rfl, ht, hb8⟩
  obtain ⟨AS, cS, rfl, hcS, hCS⟩ := ht.reads
  rw [List.length_map] at hcS hCS
  rw [List.length_map]
  have HCS := Aside0.mk hCS
  have HCM8 := Aside0.mk (Kd.C_below HCM7.out hb8)
  have HCL8 := Aside0.mk (Kd.C_below HCL7.out hb8)
  have HX8 := Aside0.mk (blk_below HX7.out hb8)
  have HB9 := Aside0.mk (below_step HB8.out hb8)
  clear ht hb8 hCS HB67 HTW7 HTW HX7 HCM7 HCL7 HB8 q0 q1 q2 q3 q4 q5 q6 q7 q8 q9 q10 q11
  go_wp2_with fail
  refine (sameTraces_eq AM cM AS cS l2 _ HCM8.out HCS.out).mono ?_
  rintro e w9 ⟨rfl, hb9⟩
  have HCL9 := Aside0.mk (Kd.C_below HCL8.out hb9)
  have HX9 := Aside0.mk (blk_below HX8.out hb9)
  have HB10 := Aside0.mk (below_step HB9.out hb9)
  clear hb9 HCM8 HCS HX8 HB9 HCL8
  obtain ⟨q0, q1, q2, q3, q4, q5, q6, q7, q8, q9, q10, q11⟩ := cfg12 HX9.out
  have s3 : ((ts.length : Int) != (ts.length : Int)) = false := by simp
  clear s3
  go_wp2_with fail
  clear q0 q1 q2 q3 q4 q5 q6 q7 q8 q9 q10 q11 HX9
  go_loopg [11] ts.length (fun gg s11 wr => ∃ i : Nat, i ≤ ts.length ∧ ts.length - i ≤ gg ∧ s11 = .int .i64 (i : Int) ∧ Aside0 (Below w9.heap.size w9 wr))
  case atStart => exact ⟨0, Nat.zero_le _, by omega, rfl, ⟨Below.refl _ _⟩⟩
  case round =>
  obtain ⟨i, hi, hgi, rfl, HB⟩ := hrel
  by_cases hlt : i < ts.length
  · obtain ⟨ad, A2', k2, e, -, -, t2, hk2, hC2⟩ := at_T51 HCL9.out (i : Int) (by omega) (by omega)
    subst e
    rw [rdT_at ts i hlt] at t2 hC2 hk2
    have hcn := (HSP.out ts[i] (List.getElem_mem _)).1
    have hz1 : (i : Int) < (ts.length : Int) := by omega
    generalize ts[i] = x at t2 hC2 hk2 hcn
    simp only [Int.toNat_natCast, toT, List.length_map] at t2 hC2 hk2
    replace t2 := (HB.out.cell (World.block_lt_of_cell? _ _ t2)).trans t2
    clear hC2 hk2
    have s3 : ((x.l.length : Int) != cntOf c.sv) = false := by rw [hcn]; simp
    have s4 : IntKind.i64.wrap ((i : Int) + 1) = (i : Int) + 1 := IntWalk.i64_in _ (by omega)
    clear hcn
    go_wp2_with fail
    go_roundg (ts.length - (i + 1))
    case measure => omega
    case rel => exact ⟨i + 1, by omega, by omega, by first | rfl | go_num, HB⟩
  · obtain rfl : i = ts.length := by omega
    have hz1 : decide (ts.length < ts.length) = false := by simp
    have hz2 : decide ((ts.length : Int) < (ts.length : Int)) = false := by simp
    clear hlt
    go_wp2
    go_ret
    exact ⟨rfl, below_step HB10.out HB.out⟩
end Go.Proofs.Ytdadnapfecmmdaa.P
