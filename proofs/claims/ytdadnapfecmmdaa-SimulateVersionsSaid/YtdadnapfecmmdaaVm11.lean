/- Own texts of a proof about layer 55's simulate (merged): Hf, Va, Vc, Vb, Vd, PF18. -/
import Derived.Test.YtdadnapfecmmdaaVm10
import Derived.Test.YtdadnapfecmmdaaVm2
import Derived.Test.YtdadnapfecmmdaaVm3
import Derived.Test.YtdadnapfecmmdaaVm9
import Derived.Laws.EntriesVeiled
import Derived.StillTailTactics
namespace Go.Proofs.Ytdadnapfecmmdaa.P
set_option linter.unusedVariables false
set_option linter.unusedSimpArgs false
open Go.RowKit Go.Proofs.YtdadnapfecmmdaaW.PrintWords Go.Proofs.YtdadnapfecmmdaaW.PrintLast Go.Proofs.YtdadnapfecmmdaaW.PrintMore
open Go.Proofs.Ytdadnapfecmmdaa.Hm
def NameOk (s : ByteArray) : Prop := ∀ k, 70 ≤ k → attribute_IsName.f k s = some true
theorem NameOk.of {s : ByteArray} (h : attribute_IsName.f 70 s = some true) : NameOk s := by
  obtain ⟨b, hb⟩ := isName_total s
  have h0 := hb 0
  rw [Nat.zero_add, h] at h0
  obtain rfl := Option.some.inj h0
  intro k hk
  have := hb (k - 70)
  rwa [show k - 70 + 70 = k from by omega] at this
theorem rd64 (l : List S64) (i : Nat) (h : i < l.length) : rd_T64 l (i : Int) = l[i] := by
  unfold rd_T64; simp [List.getD_eq_getElem?_getD, h]
theorem rd91 (l : List S91) (i : Nat) (h : i < l.length) : rd_T91 l (i : Int) = l[i] := by
  unfold rd_T91; simp [List.getD_eq_getElem?_getD, h]
theorem rd61 (l : List S61) (i : Nat) (h : i < l.length) : rd_T61 l (i : Int) = l[i] := by
  unfold rd_T61; simp [List.getD_eq_getElem?_getD, h]
section
variable (c : Cfg)
structure Valid : Prop where
  seed0 : 0 ≤ c.seed
  seed1 : c.seed ≤ 1048576
  n0 : 1 ≤ c.sv.length
  n1 : c.sv.length ≤ 16
  nf : c.fl.length ≤ 16
  sname : ∀ i (h : i < c.sv.length), NameOk c.sv[i].f0
  sidx : ∀ i (h : i < c.sv.length), (i : Int) ≤ svIdx c.sv c.sv[i].f0
  srange : ∀ i (h : i < c.sv.length), 1 ≤ c.sv[i].f1 ∧ c.sv[i].f1 ≤ 1048576 ∧ 0 ≤ c.sv[i].f2 ∧ c.sv[i].f2 ≤ 1048576 ∧ 0 ≤ c.sv[i].f3 ∧ c.sv[i].f3 ≤ 1048576 ∧ 0 ≤ c.sv[i].f4 ∧ c.sv[i].f4 ≤ 1000000
  slen : ∀ i (h : i < c.sv.length), c.sv[i].f5.length ≤ 8
  scall : ∀ i (h : i < c.sv.length), ∀ nm ∈ c.sv[i].f5, (i : Int) < svIdx c.sv nm
  off : ∀ i (h : i < c.off.length), 1 ≤ c.off[i].f0 ∧ c.off[i].f0 ≤ 1048576 ∧ -1048576 ≤ c.off[i].f1 ∧ c.off[i].f1 ≤ 1048576
  offn : c.off.length ≤ 1000
  offo : ∀ i (h : i + 1 < c.off.length), c.off[i].f0 < c.off[i + 1].f0
  gap : ∀ i (h : i < c.sv.length), (offOf c.off c.sv[i].f1).2 = true
  ch : depCheck c.ch = 0
  fsvc : ∀ i (h : i < c.fl.length), 0 ≤ svIdx c.sv c.fl[i].f0
  fver : ∀ i (h : i < c.fl.length), c.fl[i].f1.toList = [] ∨ NameOk c.fl[i].f1
  fwhen : ∀ i (h : i < c.fl.length), 0 ≤ c.fl[i].f2.f0 ∧ c.fl[i].f2.f0 < c.fl[i].f2.f1 ∧ c.fl[i].f2.f1 ≤ 1048577
  frange : ∀ i (h : i < c.fl.length), 0 ≤ c.fl[i].f3 ∧ c.fl[i].f3 ≤ 1048576 ∧ 0 ≤ c.fl[i].f4 ∧ c.fl[i].f4 ≤ 1000000
  t0 : 0 ≤ c.sfrom
  t1 : c.sfrom ≤ c.sto
  t2 : c.sto ≤ 1048576
  t3 : c.sto - c.sfrom ≤ 64
  per0 : 0 ≤ c.per
  per1 : c.per ≤ 16
  del0 : 0 ≤ c.delay
  del1 : c.delay ≤ 1048576
  chu0 : 1 ≤ c.chunk
  chu1 : c.chunk ≤ 64
  los0 : 0 ≤ c.loss
  los1 : c.loss ≤ 1000000
  rep0 : 0 ≤ c.rep
  rep1 : c.rep ≤ 1000000
  cnt : cntOf c.sv ≤ 256
end
theorem ckD_calls (c : Cfg) (p : CfgAt) (g : Nat) (w : World) (hR : CfgR w p c) (hg : w.heap[g]? = some (.cells (c.cells p) 31 (0, 0))) :
    Calls Try.prog 55 #[.pointer (some ⟨g, 0, none⟩)] w fun e w' => e = .returned (.int .i64 (depCheck c.ch)) ∧ Below w.heap.size w w' := by
  have q3 : w.cell? ⟨g, 3, none⟩ = some (.slice p.A3 c.ch.length p.c3) := (blk_cell hg 3).trans rfl
  have HC := Aside0.mk (depCheck_calls p.A3 p.c3 c.ch w hR.r3)
  clear hR hg
  generalize depCheck c.ch = r at HC
  go_enter Try.func55, Try.ntmps55
  go_wp2_with (go_at_call 50; refine HC.out.mono ?_; rintro e w1 ⟨rfl, hb1⟩)
  go_ret
  exact ⟨rfl, hb1⟩
theorem outside_calls (n a b : Int) (w : World) : Calls Try.prog 52 #[.int .i64 n, .int .i64 a, .int .i64 b] w fun e w' => e = .returned (.bool (decide (n < a ∨ b < n))) ∧ Drawn0 w w' := by
  refine simulate_outside.calls n a b _ w ?_
  unfold simulate_outside.f
  by_cases h : n < a
  · simp [h]
  · simp [h]
theorem cfg12 {c : Cfg} {p : CfgAt} {W : World} {g : Nat} (h : W.heap[g]? = some (.cells (c.cells p) 31 (0, 0))) : W.cell? ⟨g, 0, none⟩ = some (.int .i64 c.seed) ∧ W.cell? ⟨g, 1, none⟩ = some (.slice p.A1 c.sv.length p.c1) ∧ W.cell? ⟨g, 2, none⟩ = some (.slice p.A2 c.off.length p.c2) ∧ W.cell? ⟨g, 3, none⟩ = some (.slice p.A3 c.ch.length p.c3) ∧ W.cell? ⟨g, 4, none⟩ = some (.slice p.A4 c.fl.length p.c4) ∧ W.cell? ⟨g, 5, none⟩ = some (.int .i64 c.sfrom) ∧ W.cell? ⟨g, 6, none⟩ = some (.int .i64 c.sto) ∧ W.cell? ⟨g, 7, none⟩ = some (.int .i64 c.per) ∧ W.cell? ⟨g, 8, none⟩ = some (.int .i64 c.delay) ∧ W.cell? ⟨g, 9, none⟩ = some (.int .i64 c.chunk) ∧ W.cell? ⟨g, 10, none⟩ = some (.int .i64 c.loss) ∧ W.cell? ⟨g, 11, none⟩ = some (.int .i64 c.rep) :=
  ⟨(blk_cell h 0).trans rfl, (blk_cell h 1).trans rfl, (blk_cell h 2).trans rfl, (blk_cell h 3).trans rfl, (blk_cell h 4).trans rfl, (blk_cell h 5).trans rfl, (blk_cell h 6).trans rfl, (blk_cell h 7).trans rfl, (blk_cell h 8).trans rfl, (blk_cell h 9).trans rfl, (blk_cell h 10).trans rfl, (blk_cell h 11).trans rfl⟩
theorem outside_no (n a b : Int) (w : World) (h0 : a ≤ n) (h1 : n ≤ b) : Calls Try.prog 52 #[.int .i64 n, .int .i64 a, .int .i64 b] w fun e w' => e = .returned (.bool false) ∧ Below w.heap.size w w' := by
  refine (outside_calls n a b w).mono ?_
  rintro e w' ⟨rfl, nd, rfl⟩
  exact ⟨by rw [show decide (n < a ∨ b < n) = false from by simp; omega], pw_below_drewN (Below.refl _ _) nd⟩
set_option maxHeartbeats 2000000 in
set_option maxRecDepth 100000 in
theorem ckR_walk (c : Cfg) (p : CfgAt) (w : World) (hR : CfgR w p c) (hv : Valid c) : Calls Try.prog 57 #[c.val p] w fun e w' => e = .returned (.int .i64 0) ∧ Below w.heap.size w w' := by
  obtain ⟨A1, c1, A2, c2, A3, c3, A4, c4⟩ := p
  have HR := Aside0.mk hR
  have HN := Aside0.mk hv.n0
  have hcnt := hv.cnt
  have a0 := hv.t0
  have a1 := hv.t1
  have a2 := hv.t2
  have a3 := hv.t3
  have a4 : IntKind.i64.wrap (c.sto - c.sfrom) = c.sto - c.sfrom := IntWalk.i64_in _ (by omega)
  have H1 := Aside0.mk (fun W => outside_no c.per 0 16 W hv.per0 hv.per1)
  have H2 := Aside0.mk (fun W => outside_no c.delay 0 1048576 W hv.del0 hv.del1)
  have H3 := Aside0.mk (fun W => outside_no c.chunk 1 64 W hv.chu0 hv.chu1)
  have H4 := Aside0.mk (fun W => outside_no c.loss 0 1000000 W hv.los0 hv.los1)
  have H5 := Aside0.mk (fun W => outside_no c.rep 0 1000000 W hv.rep0 hv.rep1)
  clear hR hv
  go_enter Try.func57, Try.ntmps57
  have hb := below_alloc (Below.refl w.heap.size w) (.cells (c.cells ⟨A1, c1, A2, c2, A3, c3, A4, c4⟩) 31)
  have hx := blk_new w (.cells (c.cells ⟨A1, c1, A2, c2, A3, c3, A4, c4⟩) 31)
  go_wp2_with fail
  generalize w.alloc (.cells (c.cells ⟨A1, c1, A2, c2, A3, c3, A4, c4⟩) 31) = v0 at hx hb ⊢
  refine (H1.out _).mono ?_
  rintro e v1 ⟨rfl, hb1⟩
  replace hx := blk_below hx hb1
  replace hb := below_step hb hb1
  clear hb1
  have q8 : v1.cell? ⟨w.heap.size, 8, none⟩ = some (.int .i64 c.delay) := (blk_cell hx 8).trans rfl
  go_wp2_with fail
  refine (H2.out _).mono ?_
  rintro e v2 ⟨rfl, hb1⟩
  replace hx := blk_below hx hb1
  replace hb := below_step hb hb1
  clear hb1
  have q9 : v2.cell? ⟨w.heap.size, 9, none⟩ = some (.int .i64 c.chunk) := (blk_cell hx 9).trans rfl
  go_wp2_with fail
  refine (H3.out _).mono ?_
  rintro e v3 ⟨rfl, hb1⟩
  replace hx := blk_below hx hb1
  replace hb := below_step hb hb1
  clear hb1
  have q10 : v3.cell? ⟨w.heap.size, 10, none⟩ = some (.int .i64 c.loss) := (blk_cell hx 10).trans rfl
  go_wp2_with fail
  refine (H4.out _).mono ?_
  rintro e v4 ⟨rfl, hb1⟩
  replace hx := blk_below hx hb1
  replace hb := below_step hb hb1
  clear hb1
  have q11 : v4.cell? ⟨w.heap.size, 11, none⟩ = some (.int .i64 c.rep) := (blk_cell hx 11).trans rfl
  go_wp2_with fail
  refine (H5.out _).mono ?_
  rintro e v5 ⟨rfl, hb1⟩
  replace hx := blk_below hx hb1
  replace hb := below_step hb hb1
  clear hb1
  have q0 : v5.cell? ⟨w.heap.size, 0, none⟩ = some (.int .i64 c.seed) := (blk_cell hx 0).trans rfl
  have q1 : v5.cell? ⟨w.heap.size, 1, none⟩ = some (.slice A1 c.sv.length c1) := (blk_cell hx 1).trans rfl
  have q2 : v5.cell? ⟨w.heap.size, 2, none⟩ = some (.slice A2 c.off.length c2) := (blk_cell hx 2).trans rfl
  have q3 : v5.cell? ⟨w.heap.size, 3, none⟩ = some (.slice A3 c.ch.length c3) := (blk_cell hx 3).trans rfl
  have q4 : v5.cell? ⟨w.heap.size, 4, none⟩ = some (.slice A4 c.fl.length c4) := (blk_cell hx 4).trans rfl
  have q5 : v5.cell? ⟨w.heap.size, 5, none⟩ = some (.int .i64 c.sfrom) := (blk_cell hx 5).trans rfl
  have q6 : v5.cell? ⟨w.heap.size, 6, none⟩ = some (.int .i64 c.sto) := (blk_cell hx 6).trans rfl
  have q7 : v5.cell? ⟨w.heap.size, 7, none⟩ = some (.int .i64 c.per) := (blk_cell hx 7).trans rfl
  have q8 : v5.cell? ⟨w.heap.size, 8, none⟩ = some (.int .i64 c.delay) := (blk_cell hx 8).trans rfl
  have q9 : v5.cell? ⟨w.heap.size, 9, none⟩ = some (.int .i64 c.chunk) := (blk_cell hx 9).trans rfl
  have q10 : v5.cell? ⟨w.heap.size, 10, none⟩ = some (.int .i64 c.loss) := (blk_cell hx 10).trans rfl
  have q11 : v5.cell? ⟨w.heap.size, 11, none⟩ = some (.int .i64 c.rep) := (blk_cell hx 11).trans rfl
  go_wp2_with fail
  refine (count_calls c ⟨A1, c1, A2, c2, A3, c3, A4, c4⟩ _ (HR.out.below hb) HN.out).mono ?_
  rintro e v6 ⟨rfl, hb1⟩
  go_wp2_with fail
  go_ret
  exact ⟨by rfl, below_step hb hb1⟩
theorem name_calls (s : ByteArray) (h : NameOk s) (w : World) : Calls Try.prog 51 #[.string s] w fun e w' => e = .returned (.bool true) ∧ Below w.heap.size w w' := by
  refine (attribute_IsName.calls 70 s true w (h 70 (Nat.le_refl _))).mono ?_
  rintro e w' ⟨rfl, hb⟩
  first | exact ⟨rfl, hb⟩ | (obtain ⟨nd, rfl⟩ := hb; exact ⟨rfl, pw_below_drewN (Below.refl _ _) nd⟩)
set_option maxHeartbeats 2000000 in
set_option maxRecDepth 100000 in
theorem ckF_walk (c : Cfg) (p : CfgAt) (w : World) (hR : CfgR w p c) (hv : Valid c) : Calls Try.prog 56 #[c.val p] w fun e w' => e = .returned (.int .i64 0) ∧ Below w.heap.size w w' := by
  obtain ⟨A1, c1, A2, c2, A3, c3, A4, c4⟩ := p
  have HR := Aside0.mk hR
  have HV := Aside0.mk hv
  have hn := hv.nf
  have HX0 := Aside0.mk (blk_new w (.cells (c.cells ⟨A1, c1, A2, c2, A3, c3, A4, c4⟩) 31))
  have HB0 := Aside0.mk (below_alloc (Below.refl w.heap.size w) (.cells (c.cells ⟨A1, c1, A2, c2, A3, c3, A4, c4⟩) 31))
  clear hR hv
  go_enter Try.func56, Try.ntmps56
  go_wp2_with fail
  go_loopg [4, 8] c.fl.length (fun gg s4 s8 wr => ∃ i : Nat, i ≤ c.fl.length ∧ c.fl.length - i ≤ gg ∧ s8 = .int .i64 (i : Int) ∧ Aside0 (wr.heap[w.heap.size]? = some (.cells (c.cells ⟨A1, c1, A2, c2, A3, c3, A4, c4⟩) 31 (0, 0))) ∧ Aside0 (Below w.heap.size w wr))
  case atStart => exact ⟨0, Nat.zero_le _, by omega, rfl, HX0, HB0⟩
  case round =>
  obtain ⟨i, hi, hgi, rfl, HX, HB⟩ := hrel
  by_cases hlt : i < c.fl.length
  · have hs := HV.out.fsvc i hlt
    have hvr := HV.out.fver i hlt
    obtain ⟨w0, w1', w2⟩ := HV.out.fwhen i hlt
    obtain ⟨r0, r1, r2, r3⟩ := HV.out.frange i hlt
    obtain ⟨ad, e, t0, t1, t2, t3, t4, t5⟩ := at_T61 HR.out.r4 (i : Int) (by omega) (by omega)
    dsimp only at e
    subst e
    simp only [Int.toNat_natCast] at t0 t1 t2 t3 t4 t5
    rw [rd61 c.fl i hlt] at t0 t1 t2 t3 t4 t5
    generalize c.fl[i] = x at hs hvr w0 w1' w2 r0 r1 r2 r3 t0 t1 t2 t3 t4 t5
    replace t0 := (HB.out.cell (World.block_lt_of_cell? _ _ t0)).trans t0
    replace t1 := (HB.out.cell (World.block_lt_of_cell? _ _ t1)).trans t1
    replace t2 := (HB.out.cell (World.block_lt_of_cell? _ _ t2)).trans t2
    replace t3 := (HB.out.cell (World.block_lt_of_cell? _ _ t3)).trans t3
    replace t4 := (HB.out.cell (World.block_lt_of_cell? _ _ t4)).trans t4
    replace t5 := (HB.out.cell (World.block_lt_of_cell? _ _ t5)).trans t5
    have hz1 : (i : Int) < (c.fl.length : Int) := by omega
    go_upto_region 4 with fail
    have HX1 := Aside0.mk (blk_alloc HX.out (.cells #[.string x.f0, .string x.f1, .int .i64 x.f2.f0, .int .i64 x.f2.f1, .int .i64 x.f3, .int .i64 x.f4] 61))
    have HY1 := Aside0.mk (blk_new wr (.cells #[.string x.f0, .string x.f1, .int .i64 x.f2.f0, .int .i64 x.f2.f1, .int .i64 x.f3, .int .i64 x.f4] 61))
    have HB1 := Aside0.mk (below_alloc HB.out (.cells #[.string x.f0, .string x.f1, .int .i64 x.f2.f0, .int .i64 x.f2.f1, .int .i64 x.f3, .int .i64 x.f4] 61))
    clear t0 t1 t2 t3 t4 t5
    generalize hgb : wr.heap.size = gb at HY1 ⊢
    generalize wr.alloc (.cells #[.string x.f0, .string x.f1, .int .i64 x.f2.f0, .int .i64 x.f2.f1, .int .i64 x.f3, .int .i64 x.f4] 61) = v0 at HX1 HY1 HB1 ⊢
    have q0 : v0.cell? ⟨w.heap.size, 0, none⟩ = some (.int .i64 c.seed) := (blk_cell HX1.out 0).trans rfl
    have q1 : v0.cell? ⟨w.heap.size, 1, none⟩ = some (.slice A1 c.sv.length c1) := (blk_cell HX1.out 1).trans rfl
    have q2 : v0.cell? ⟨w.heap.size, 2, none⟩ = some (.slice A2 c.off.length c2) := (blk_cell HX1.out 2).trans rfl
    have q3 : v0.cell? ⟨w.heap.size, 3, none⟩ = some (.slice A3 c.ch.length c3) := (blk_cell HX1.out 3).trans rfl
    have q4 : v0.cell? ⟨w.heap.size, 4, none⟩ = some (.slice (some ad) c.fl.length c4) := (blk_cell HX1.out 4).trans rfl
    have q5 : v0.cell? ⟨w.heap.size, 5, none⟩ = some (.int .i64 c.sfrom) := (blk_cell HX1.out 5).trans rfl
    have q6 : v0.cell? ⟨w.heap.size, 6, none⟩ = some (.int .i64 c.sto) := (blk_cell HX1.out 6).trans rfl
    have q7 : v0.cell? ⟨w.heap.size, 7, none⟩ = some (.int .i64 c.per) := (blk_cell HX1.out 7).trans rfl
    have q8 : v0.cell? ⟨w.heap.size, 8, none⟩ = some (.int .i64 c.delay) := (blk_cell HX1.out 8).trans rfl
    have q9 : v0.cell? ⟨w.heap.size, 9, none⟩ = some (.int .i64 c.chunk) := (blk_cell HX1.out 9).trans rfl
    have q10 : v0.cell? ⟨w.heap.size, 10, none⟩ = some (.int .i64 c.loss) := (blk_cell HX1.out 10).trans rfl
    have q11 : v0.cell? ⟨w.heap.size, 11, none⟩ = some (.int .i64 c.rep) := (blk_cell HX1.out 11).trans rfl
    have y0 : v0.cell? ⟨gb, 0, none⟩ = some (.string x.f0) := (blk_cell HY1.out 0).trans rfl
    go_wp2_with fail
    refine (index_calls c ⟨A1, c1, A2, c2, A3, c3, (some ad), c4⟩ x.f0 _ (HR.out.below HB1.out)).mono ?_
    rintro e v1 ⟨rfl, hb1⟩
    have hx := blk_below HX1.out hb1
    have hy := blk_below HY1.out hb1
    have hb := below_step HB1.out hb1
    clear hb1 HX1 HY1 HB1 y0 q0 q1 q2 q3 q4 q5 q6 q7 q8 q9 q10 q11
    have y1 : v1.cell? ⟨gb, 1, none⟩ = some (.string x.f1) := (blk_cell hy 1).trans rfl
    have z1 : (svIdx c.sv x.f0 < 0) = False := eq_false (by omega)
    have z2 : decide (svIdx c.sv x.f0 < 0) = false := by simp; omega
    generalize svIdx c.sv x.f0 = si at z1 z2 ⊢
    go_upto_region 6 with fail
    have HX := Aside0.mk hx
    have HY := Aside0.mk hy
    have HB := Aside0.mk hb
    clear hx hy hb
    go_cut [18] (fun s18 wz => s18 = .bool false ∧ Aside0 (wz.heap[w.heap.size]? = some (.cells (c.cells ⟨A1, c1, A2, c2, A3, c3, (some ad), c4⟩) 31 (0, 0))) ∧ Aside0 (wz.heap[gb]? = some (.cells #[.string x.f0, .string x.f1, .int .i64 x.f2.f0, .int .i64 x.f2.f1, .int .i64 x.f3, .int .i64 x.f4] 61 (0, 0))) ∧ Aside0 (Below w.heap.size w wz))
    case first =>
      by_cases hE : x.f1.toList = []
      · have e1 : x.f1.toList.isEmpty = true := by rw [hE]; rfl
        go_wp2_with fail
        go_meet
        exact ⟨rfl, HX, HY, HB⟩
      · have e1 : x.f1.toList.isEmpty = false := by simpa using hE
        have hnm := Aside0.mk (hvr.resolve_left hE)
        clear hE hvr
        go_wp2_with fail
        refine (name_calls x.f1 hnm.out _).mono ?_
        rintro e v2 ⟨rfl, hb1⟩
        go_wp2_with fail
        go_meet
        exact ⟨rfl, ⟨blk_below HX.out hb1⟩, ⟨blk_below HY.out hb1⟩, ⟨below_step HB.out hb1⟩⟩
    case rest =>
      clear HX HY HB y1 z1 z2
      obtain ⟨rfl, HX, HY, HB⟩ := hcut
      have y2 : wc.cell? ⟨gb, 2, none⟩ = some (.int .i64 x.f2.f0) := (blk_cell HY.out 2).trans rfl
      have y3 : wc.cell? ⟨gb, 3, none⟩ = some (.int .i64 x.f2.f1) := (blk_cell HY.out 3).trans rfl
      have y4 : wc.cell? ⟨gb, 4, none⟩ = some (.int .i64 x.f3) := (blk_cell HY.out 4).trans rfl
      have H4 := Aside0.mk (fun W => outside_no x.f3 0 1048576 W r0 r1)
      have H5 := Aside0.mk (fun W => outside_no x.f4 0 1000000 W r2 r3)
      clear hs hvr r0 r1 r2 r3
      go_wp2_with fail
      refine (H4.out _).mono ?_
      rintro e v2 ⟨rfl, hb2⟩
      have hy := blk_below HY.out hb2
      have HX2 := Aside0.mk (blk_below HX.out hb2)
      have HB2 := Aside0.mk (below_step HB.out hb2)
      have y5 : v2.cell? ⟨gb, 5, none⟩ = some (.int .i64 x.f4) := (blk_cell hy 5).trans rfl
      clear hy hb2 y2 y3 y4 HX HY HB
      go_wp2_with fail
      refine (H5.out _).mono ?_
      rintro e v3 ⟨rfl, hb3⟩
      have HX3 := Aside0.mk (blk_below HX2.out hb3)
      have HB3 := Aside0.mk (below_step HB2.out hb3)
      clear hb3 y5 HX2 HB2
      go_wp2_with fail
      go_roundg (c.fl.length - (i + 1))
      case measure => omega
      case rel => exact ⟨i + 1, by omega, by omega, by first | rfl | go_num, HX3, HB3⟩
  · have hz1 : decide (i < c.fl.length) = false := by simp; omega
    have hz2 : decide ((i : Int) < (c.fl.length : Int)) = false := by simp; omega
    clear hlt
    go_wp2
    go_ret
    exact ⟨rfl, HB.out⟩
def ckoT.T6 : Bool × List (List Nat × List Nat) := (true, [([], []), ([0], [0]), ([1], [1]), ([2], [2]), ([3, 2], [2, 3]), ([2], [2]), ([5, 2], [2, 5]), ([2], [2]), ([7, 2], [2, 7]), ([6, 8, 2], [2, 6, 8]), ([9, 2], [2, 9]), ([10, 2], [2, 10]), ([4, 11, 2], [2, 4, 11]), ([2, 12], [2, 12]), ([13, 2], [13])])
def ckoT.B6 : List Nat := [0, 1, 3, 7, 15, 7, 39, 7, 135, 487, 999, 2023, 4095, 8191, 16383]
theorem ckoT.tab6 : rtab .any (opsOf Try.f54 6) = ckoT.T6 := by kernel_rfl
theorem ckoT.bits6 : waitsOk ckoT.T6.2 ckoT.B6 = true := by kernel_rfl
set_option maxHeartbeats 2000000 in
set_option maxRecDepth 100000 in
theorem ckO_walk (c : Cfg) (p : CfgAt) (w : World) (hR : CfgR w p c) (hv : Valid c) : Calls Try.prog 54 #[c.val p] w fun e w' => e = .returned (.int .i64 0) ∧ Below w.heap.size w w' := by
  obtain ⟨A1, c1, A2, c2, A3, c3, A4, c4⟩ := p
  have HR := Aside0.mk hR
  have HV := Aside0.mk hv
  have hn := hv.offn
  have hn1 := hv.n1
  have HX0 := Aside0.mk (blk_new w (.cells (c.cells ⟨A1, c1, A2, c2, A3, c3, A4, c4⟩) 31))
  have HB0 := Aside0.mk (below_alloc (Below.refl w.heap.size w) (.cells (c.cells ⟨A1, c1, A2, c2, A3, c3, A4, c4⟩) 31))
  clear hR hv
  go_enter Try.func54, Try.ntmps54
  go_wp2_with fail
  go_loopg [3, 4, 12] c.off.length (fun gg s3 s4 s12 wr => ∃ i : Nat, i ≤ c.off.length ∧ c.off.length - i ≤ gg ∧ s12 = .int .i64 (i : Int) ∧ Aside0 (wr.heap[w.heap.size]? = some (.cells (c.cells ⟨A1, c1, A2, c2, A3, c3, A4, c4⟩) 31 (0, 0))) ∧ Aside0 (Below w.heap.size w wr))
  case atStart => exact ⟨0, Nat.zero_le _, by omega, rfl, HX0, HB0⟩
  case round =>
  obtain ⟨i, hi, hgi, rfl, HX, HB⟩ := hrel
  by_cases hlt : i < c.off.length
  · obtain ⟨r0, r1, r2, r3⟩ := HV.out.off i hlt
    have ho : 0 < i → c.off[i - 1].f0 < c.off[i].f0 := fun h => by
      have := HV.out.offo (i - 1) (by omega)
      simpa only [show i - 1 + 1 = i from by omega] using this
    obtain ⟨ad, e, t0, t1⟩ := at_T91 HR.out.r2 (i : Int) (by omega) (by omega)
    obtain ⟨ad2, e2, u0, -⟩ := at_T91 HR.out.r2 ((i - 1 : Nat) : Int) (by omega) (by omega)
    dsimp only at e e2
    subst e
    obtain rfl : ad = ad2 := by injection e2
    clear e2
    simp only [Int.toNat_natCast] at t0 t1 u0
    rw [rd91 c.off i hlt] at t0 t1
    rw [rd91 c.off (i - 1) (by omega)] at u0
    generalize c.off[i] = x at r0 r1 r2 r3 t0 t1 ho
    generalize c.off[i - 1].f0 = y at u0 ho
    replace t0 := (HB.out.cell (World.block_lt_of_cell? _ _ t0)).trans t0
    replace t1 := (HB.out.cell (World.block_lt_of_cell? _ _ t1)).trans t1
    replace u0 := (HB.out.cell (World.block_lt_of_cell? _ _ u0)).trans u0
    have hz1 : (i : Int) < (c.off.length : Int) := by omega
    have H1 := Aside0.mk (fun W => outside_no x.f0 1 1048576 W r0 r1)
    have H2 := Aside0.mk (fun W => outside_no x.f1 (-1048576) 1048576 W r2 r3)
    clear r0 r1 r2 r3
    go_upto_region 4 with fail
    have HX1 := Aside0.mk (blk_alloc HX.out (.cells #[.int .i64 x.f0, .int .i64 x.f1] 91))
    have HY1 := Aside0.mk (blk_new wr (.cells #[.int .i64 x.f0, .int .i64 x.f1] 91))
    have HB1 := Aside0.mk (below_alloc HB.out (.cells #[.int .i64 x.f0, .int .i64 x.f1] 91))
    have hb0 : Below wr.heap.size wr (wr.alloc (.cells #[.int .i64 x.f0, .int .i64 x.f1] 91)) := below_alloc (Below.refl _ _) _
    replace u0 := (hb0.cell (World.block_lt_of_cell? _ _ u0)).trans u0
    clear t0 t1 hb0
    generalize hgb : wr.heap.size = gb at HY1 ⊢
    generalize wr.alloc (.cells #[.int .i64 x.f0, .int .i64 x.f1] 91) = v0 at HX1 HY1 HB1 u0 ⊢
    have y0 : v0.cell? ⟨gb, 0, none⟩ = some (.int .i64 x.f0) := (blk_cell HY1.out 0).trans rfl
    go_wp2_with fail
    refine (H1.out _).mono ?_
    rintro e v1 ⟨rfl, hb1⟩
    have HX2 := Aside0.mk (blk_below HX1.out hb1)
    have HY2 := Aside0.mk (blk_below HY1.out hb1)
    have HB2 := Aside0.mk (below_step HB1.out hb1)
    replace u0 := (hb1.cell (World.block_lt_of_cell? _ _ u0)).trans u0
    have y1 : v1.cell? ⟨gb, 1, none⟩ = some (.int .i64 x.f1) := (blk_cell HY2.out 1).trans rfl
    clear hb1 y0 HX1 HY1 HB1
    go_wp2_with fail
    refine (H2.out _).mono ?_
    rintro e v2 ⟨rfl, hb1⟩
    have HX3 := Aside0.mk (blk_below HX2.out hb1)
    have HY3 := Aside0.mk (blk_below HY2.out hb1)
    have HB3 := Aside0.mk (below_step HB2.out hb1)
    replace u0 := (hb1.cell (World.block_lt_of_cell? _ _ u0)).trans u0
    have y0 : v2.cell? ⟨gb, 0, none⟩ = some (.int .i64 x.f0) := (blk_cell HY3.out 0).trans rfl
    have y2 : v2.cell? ⟨w.heap.size, 2, none⟩ = some (.slice (some ad) c.off.length c2) := (blk_cell HX3.out 2).trans rfl
    clear hb1 y1 HX2 HY2 HB2
    go_upto_region 6 with fail
    by_cases hi0 : 0 < i
    · have hy := ho hi0
      have k1 : IntKind.i64.wrap ((i : Int) - 1) = ((i - 1 : Nat) : Int) := by rw [IntWalk.i64_in _ (by omega)]; omega
      have k2 : decide ((0 : Int) < (i : Int)) = true := by simp; omega
      have k3 : decide (x.f0 ≤ y) = false := by simp; omega
      have k4 : ((i - 1 : Nat) : Int) < (c.off.length : Int) := by omega
      have k5 : (0 : Int) ≤ ((i - 1 : Nat) : Int) := by omega
      refine start_ (n := 15) (S := fun w' => Below v2.heap.size v2 w') (ds := []) #[false, false, false, false, false, false, false, false, false, false, false, false, false, false, false] (by kernel_rfl) rfl rfl (Below.refl _ _).drew (fun hHeld => ?_)
      refine with_tabW ckoT.tab6 ckoT.bits6 (fun HT_ HW_ => ?_)
      generalize v2.drew = wd at hHeld ⊢
      refine pure_ (i := 0) (N := some 27) (v := ?_) (a' := ?_) #[true, false, false, false, false, false, false, false, false, false, false, false, false, false, false] rfl rfl (any_of HT_.out (by kernel_rfl)) (fun _ _ _ h => h) (Or.inl ⟨by rfl, ?_⟩) ?_ ?_
      rotate_left
      · intro w'
        go_simp
        with_reducible rfl
      rotate_left
      · simp only [Act.put, List.setIfInBounds_toArray, List.set_cons_zero, List.set_cons_succ, i64_w, i32_w]
        rfl
      refine pure_ (i := 1) (N := some 28) (v := ?_) (a' := ?_) #[true, true, false, false, false, false, false, false, false, false, false, false, false, false, false] rfl rfl (any_of HT_.out (by kernel_rfl)) (fun _ _ _ h => h) (Or.inl ⟨by rfl, ?_⟩) ?_ ?_
      rotate_left
      · intro w'
        go_simp
        with_reducible rfl
      rotate_left
      · simp only [Act.put, List.setIfInBounds_toArray, List.set_cons_zero, List.set_cons_succ, i64_w, i32_w]
        rfl
      refine pure_ (i := 2) (N := some 29) (v := ?_) (a' := ?_) #[true, true, true, false, false, false, false, false, false, false, false, false, false, false, false] rfl rfl (any_of HT_.out (by kernel_rfl)) (fun _ _ _ h => h) (Or.inl ⟨by rfl, ?_⟩) ?_ ?_
      rotate_left
      · intro w'
        go_simp
        with_reducible rfl
      rotate_left
      · simp only [Act.put, List.setIfInBounds_toArray, List.set_cons_zero, List.set_cons_succ, i64_w, i32_w]
        rfl
      refine pure_ (i := 3) (N := some 30) (v := ?_) (a' := ?_) #[true, true, true, true, false, false, false, false, false, false, false, false, false, false, false] rfl rfl (any_of HT_.out (by kernel_rfl)) (fun _ _ _ h => h) (Or.inl ⟨by rfl, ?_⟩) ?_ ?_
      rotate_left
      · intro w'
        go_simp
        with_reducible rfl
      rotate_left
      · simp only [Act.put, List.setIfInBounds_toArray, List.set_cons_zero, List.set_cons_succ, i64_w, i32_w]
        rfl
      refine take_ (i := 4) (N := some 31) (v := ?_) (a' := ?_) #[true, true, true, true, true, false, false, false, false, false, false, false, false, false, false] rfl rfl (take_ofW HT_.out HW_.out (by kernel_rfl)) (fun _ _ _ h => h) (Or.inl ⟨by rfl, ?_⟩) hHeld ?_ ?_
      rotate_left
      · intro w' hS
        replace y0 := (hS.cell (World.block_lt_of_cell? _ _ y0)).trans y0
        go_simp
        with_reducible rfl
      rotate_left
      · simp only [Act.put, List.setIfInBounds_toArray, List.set_cons_zero, List.set_cons_succ, i64_w, i32_w]
        rfl
      refine pure_ (i := 5) (N := some 32) (v := ?_) (a' := ?_) #[true, true, true, true, true, true, false, false, false, false, false, false, false, false, false] rfl rfl (any_of HT_.out (by kernel_rfl)) (fun _ _ _ h => h) (Or.inl ⟨by rfl, ?_⟩) ?_ ?_
      rotate_left
      · intro w'
        go_simp
        with_reducible rfl
      rotate_left
      · simp only [Act.put, List.setIfInBounds_toArray, List.set_cons_zero, List.set_cons_succ, i64_w, i32_w]
        rfl
      refine take_ (i := 6) (N := some 33) (v := ?_) (a' := ?_) #[true, true, true, true, true, true, true, false, false, false, false, false, false, false, false] rfl rfl (take_ofW HT_.out HW_.out (by kernel_rfl)) (fun _ _ _ h => h) (Or.inl ⟨by rfl, ?_⟩) hHeld ?_ ?_
      rotate_left
      · intro w' hS
        replace y2 := (hS.cell (World.block_lt_of_cell? _ _ y2)).trans y2
        go_simp
        with_reducible rfl
      rotate_left
      · simp only [Act.put, List.setIfInBounds_toArray, List.set_cons_zero, List.set_cons_succ, i64_w, i32_w]
        rfl
      refine pure_ (i := 7) (N := some 34) (v := ?_) (a' := ?_) #[true, true, true, true, true, true, true, true, false, false, false, false, false, false, false] rfl rfl (any_of HT_.out (by kernel_rfl)) (fun _ _ _ h => h) (Or.inl ⟨by rfl, ?_⟩) ?_ ?_
      rotate_left
      · intro w'
        go_simp
        with_reducible rfl
      rotate_left
      · simp only [Act.put, List.setIfInBounds_toArray, List.set_cons_zero, List.set_cons_succ, i64_w, i32_w]
        rfl
      refine pure_ (i := 8) (N := some 35) (v := ?_) (a' := ?_) #[true, true, true, true, true, true, true, true, true, false, false, false, false, false, false] rfl rfl (any_of HT_.out (by kernel_rfl)) (fun _ _ _ h => h) (Or.inl ⟨by rfl, ?_⟩) ?_ ?_
      rotate_left
      · intro w'
        go_simp
        with_reducible rfl
      rotate_left
      · simp only [Act.put, List.setIfInBounds_toArray, List.set_cons_zero, List.set_cons_succ, i64_w, i32_w]
        rfl
      refine pure_ (i := 9) (N := some 36) (v := ?_) (a' := ?_) #[true, true, true, true, true, true, true, true, true, true, false, false, false, false, false] rfl rfl (any_of HT_.out (by kernel_rfl)) (fun _ _ _ h => h) (Or.inl ⟨by rfl, ?_⟩) ?_ ?_
      rotate_left
      · intro w'
        go_simp
        with_reducible rfl
      rotate_left
      · simp only [Act.put, List.setIfInBounds_toArray, List.set_cons_zero, List.set_cons_succ, i64_w, i32_w]
        rfl
      refine pure_ (i := 10) (N := some 37) (v := ?_) (a' := ?_) #[true, true, true, true, true, true, true, true, true, true, true, false, false, false, false] rfl rfl (any_of HT_.out (by kernel_rfl)) (fun _ _ _ h => h) (Or.inl ⟨by rfl, ?_⟩) ?_ ?_
      rotate_left
      · intro w'
        go_simp
        with_reducible rfl
      rotate_left
      · simp only [Act.put, List.setIfInBounds_toArray, List.set_cons_zero, List.set_cons_succ, i64_w, i32_w]
        rfl
      refine take_ (i := 11) (N := some 38) (v := ?_) (a' := ?_) #[true, true, true, true, true, true, true, true, true, true, true, true, false, false, false] rfl rfl (take_ofW HT_.out HW_.out (by kernel_rfl)) (fun _ _ _ h => h) (Or.inl ⟨by rfl, ?_⟩) hHeld ?_ ?_
      rotate_left
      · intro w' hS
        replace u0 := (hS.cell (World.block_lt_of_cell? _ _ u0)).trans u0
        go_simp
        with_reducible rfl
      rotate_left
      · simp only [Act.put, List.setIfInBounds_toArray, List.set_cons_zero, List.set_cons_succ, i64_w, i32_w]
        rfl
      refine pure_ (i := 12) (N := some 39) (v := ?_) (a' := ?_) #[true, true, true, true, true, true, true, true, true, true, true, true, true, false, false] rfl rfl (any_of HT_.out (by kernel_rfl)) (fun _ _ _ h => h) (Or.inl ⟨by rfl, ?_⟩) ?_ ?_
      rotate_left
      · intro w'
        go_simp
        with_reducible rfl
      rotate_left
      · simp only [Act.put, List.setIfInBounds_toArray, List.set_cons_zero, List.set_cons_succ, i64_w, i32_w]
        rfl
      refine pure_ (i := 13) (N := some 40) (v := ?_) (a' := ?_) #[true, true, true, true, true, true, true, true, true, true, true, true, true, true, false] rfl rfl (any_of HT_.out (by kernel_rfl)) (fun _ _ _ h => h) (Or.inl ⟨by rfl, ?_⟩) ?_ ?_
      rotate_left
      · intro w'
        go_simp
        with_reducible rfl
      rotate_left
      · simp only [Act.put, List.setIfInBounds_toArray, List.set_cons_zero, List.set_cons_succ, i64_w, i32_w]
        rfl
      refine pure_ (i := 14) (N := some 26) (v := ?_) (a' := ?_) #[true, true, true, true, true, true, true, true, true, true, true, true, true, true, true] rfl rfl (any_of HT_.out (by kernel_rfl)) (fun _ _ _ h => h) (Or.inl ⟨by rfl, ?_⟩) ?_ ?_
      rotate_left
      · intro w'
        go_simp
        with_reducible rfl
      rotate_left
      · simp only [Act.put, List.setIfInBounds_toArray, List.set_cons_zero, List.set_cons_succ, i64_w, i32_w]
        rfl
      refine done_ (done_of HT_.out (by kernel_rfl)) ?_
      have HX4 := Aside0.mk (blk_below HX3.out hHeld)
      have HB4 := Aside0.mk (below_step HB3.out hHeld)
      clear hHeld u0 y0 y2 HX3 HY3 HB3
      go_wp2_with fail
      go_roundg (c.off.length - (i + 1))
      case measure => omega
      case rel => exact ⟨i + 1, by omega, by omega, by first | rfl | go_num, HX4, HB4⟩
    · have k2 : decide ((0 : Int) < (i : Int)) = false := by simp; omega
      refine start_ (n := 15) (S := fun w' => Below v2.heap.size v2 w') (ds := []) #[false, false, false, false, false, false, false, false, false, false, false, false, false, false, false] (by kernel_rfl) rfl rfl (Below.refl _ _).drew (fun hHeld => ?_)
      refine with_tabW ckoT.tab6 ckoT.bits6 (fun HT_ HW_ => ?_)
      generalize v2.drew = wd at hHeld ⊢
      refine pure_ (i := 0) (N := some 27) (v := ?_) (a' := ?_) #[true, false, false, false, false, false, false, false, false, false, false, false, false, false, false] rfl rfl (any_of HT_.out (by kernel_rfl)) (fun _ _ _ h => h) (Or.inl ⟨by rfl, ?_⟩) ?_ ?_
      rotate_left
      · intro w'
        go_simp
        with_reducible rfl
      rotate_left
      · simp only [Act.put, List.setIfInBounds_toArray, List.set_cons_zero, List.set_cons_succ, i64_w, i32_w]
        rfl
      refine pure_ (i := 1) (N := some 28) (v := ?_) (a' := ?_) #[true, true, false, false, false, false, false, false, false, false, false, false, false, false, false] rfl rfl (any_of HT_.out (by kernel_rfl)) (fun _ _ _ h => h) (Or.inl ⟨by rfl, ?_⟩) ?_ ?_
      rotate_left
      · intro w'
        go_simp
        with_reducible rfl
      rotate_left
      · simp only [Act.put, List.setIfInBounds_toArray, List.set_cons_zero, List.set_cons_succ, i64_w, i32_w]
        rfl
      refine pure_ (i := 2) (N := some 29) (v := ?_) (a' := ?_) #[true, true, true, false, false, false, false, false, false, false, false, false, false, false, false] rfl rfl (any_of HT_.out (by kernel_rfl)) (fun _ _ _ h => h) (Or.inl ⟨by rfl, ?_⟩) ?_ ?_
      rotate_left
      · intro w'
        go_simp
        with_reducible rfl
      rotate_left
      · simp only [Act.put, List.setIfInBounds_toArray, List.set_cons_zero, List.set_cons_succ, i64_w, i32_w]
        rfl
      refine pure_ (i := 3) (N := some 30) (v := undef) (a' := ?_) #[true, true, true, true, false, false, false, false, false, false, false, false, false, false, false] rfl rfl (any_of HT_.out (by kernel_rfl)) (fun _ _ _ h => h) (Or.inr ⟨by rfl, rfl⟩) ?_ ?_
      rotate_left
      · simp only [Act.put, List.setIfInBounds_toArray, List.set_cons_zero, List.set_cons_succ, i64_w, i32_w]
        rfl
      refine take_ (i := 4) (N := some 31) (v := undef) (a' := ?_) #[true, true, true, true, true, false, false, false, false, false, false, false, false, false, false] rfl rfl (take_ofW HT_.out HW_.out (by kernel_rfl)) (fun _ _ _ h => h) (Or.inr ⟨by rfl, rfl⟩) hHeld ?_ ?_
      rotate_left
      · simp only [Act.put, List.setIfInBounds_toArray, List.set_cons_zero, List.set_cons_succ, i64_w, i32_w]
        rfl
      refine pure_ (i := 5) (N := some 32) (v := undef) (a' := ?_) #[true, true, true, true, true, true, false, false, false, false, false, false, false, false, false] rfl rfl (any_of HT_.out (by kernel_rfl)) (fun _ _ _ h => h) (Or.inr ⟨by rfl, rfl⟩) ?_ ?_
      rotate_left
      · simp only [Act.put, List.setIfInBounds_toArray, List.set_cons_zero, List.set_cons_succ, i64_w, i32_w]
        rfl
      refine take_ (i := 6) (N := some 33) (v := undef) (a' := ?_) #[true, true, true, true, true, true, true, false, false, false, false, false, false, false, false] rfl rfl (take_ofW HT_.out HW_.out (by kernel_rfl)) (fun _ _ _ h => h) (Or.inr ⟨by rfl, rfl⟩) hHeld ?_ ?_
      rotate_left
      · simp only [Act.put, List.setIfInBounds_toArray, List.set_cons_zero, List.set_cons_succ, i64_w, i32_w]
        rfl
      refine pure_ (i := 7) (N := some 34) (v := undef) (a' := ?_) #[true, true, true, true, true, true, true, true, false, false, false, false, false, false, false] rfl rfl (any_of HT_.out (by kernel_rfl)) (fun _ _ _ h => h) (Or.inr ⟨by rfl, rfl⟩) ?_ ?_
      rotate_left
      · simp only [Act.put, List.setIfInBounds_toArray, List.set_cons_zero, List.set_cons_succ, i64_w, i32_w]
        rfl
      refine pure_ (i := 8) (N := some 35) (v := undef) (a' := ?_) #[true, true, true, true, true, true, true, true, true, false, false, false, false, false, false] rfl rfl (any_of HT_.out (by kernel_rfl)) (fun _ _ _ h => h) (Or.inr ⟨by rfl, rfl⟩) ?_ ?_
      rotate_left
      · simp only [Act.put, List.setIfInBounds_toArray, List.set_cons_zero, List.set_cons_succ, i64_w, i32_w]
        rfl
      refine pure_ (i := 9) (N := some 36) (v := undef) (a' := ?_) #[true, true, true, true, true, true, true, true, true, true, false, false, false, false, false] rfl rfl (any_of HT_.out (by kernel_rfl)) (fun _ _ _ h => h) (Or.inr ⟨by rfl, rfl⟩) ?_ ?_
      rotate_left
      · simp only [Act.put, List.setIfInBounds_toArray, List.set_cons_zero, List.set_cons_succ, i64_w, i32_w]
        rfl
      refine pure_ (i := 10) (N := some 37) (v := undef) (a' := ?_) #[true, true, true, true, true, true, true, true, true, true, true, false, false, false, false] rfl rfl (any_of HT_.out (by kernel_rfl)) (fun _ _ _ h => h) (Or.inr ⟨by rfl, rfl⟩) ?_ ?_
      rotate_left
      · simp only [Act.put, List.setIfInBounds_toArray, List.set_cons_zero, List.set_cons_succ, i64_w, i32_w]
        rfl
      refine take_ (i := 11) (N := some 38) (v := undef) (a' := ?_) #[true, true, true, true, true, true, true, true, true, true, true, true, false, false, false] rfl rfl (take_ofW HT_.out HW_.out (by kernel_rfl)) (fun _ _ _ h => h) (Or.inr ⟨by rfl, rfl⟩) hHeld ?_ ?_
      rotate_left
      · simp only [Act.put, List.setIfInBounds_toArray, List.set_cons_zero, List.set_cons_succ, i64_w, i32_w]
        rfl
      refine pure_ (i := 12) (N := some 39) (v := undef) (a' := ?_) #[true, true, true, true, true, true, true, true, true, true, true, true, true, false, false] rfl rfl (any_of HT_.out (by kernel_rfl)) (fun _ _ _ h => h) (Or.inr ⟨by rfl, rfl⟩) ?_ ?_
      rotate_left
      · simp only [Act.put, List.setIfInBounds_toArray, List.set_cons_zero, List.set_cons_succ, i64_w, i32_w]
        rfl
      refine pure_ (i := 13) (N := some 40) (v := ?_) (a' := ?_) #[true, true, true, true, true, true, true, true, true, true, true, true, true, true, false] rfl rfl (any_of HT_.out (by kernel_rfl)) (fun _ _ _ h => h) (Or.inl ⟨by rfl, ?_⟩) ?_ ?_
      rotate_left
      · intro w'
        go_simp
        with_reducible rfl
      rotate_left
      · simp only [Act.put, List.setIfInBounds_toArray, List.set_cons_zero, List.set_cons_succ, i64_w, i32_w]
        rfl
      refine pure_ (i := 14) (N := some 26) (v := ?_) (a' := ?_) #[true, true, true, true, true, true, true, true, true, true, true, true, true, true, true] rfl rfl (any_of HT_.out (by kernel_rfl)) (fun _ _ _ h => h) (Or.inl ⟨by rfl, ?_⟩) ?_ ?_
      rotate_left
      · intro w'
        go_simp
        with_reducible rfl
      rotate_left
      · simp only [Act.put, List.setIfInBounds_toArray, List.set_cons_zero, List.set_cons_succ, i64_w, i32_w]
        rfl
      refine done_ (done_of HT_.out (by kernel_rfl)) ?_
      have HX4 := Aside0.mk (blk_below HX3.out hHeld)
      have HB4 := Aside0.mk (below_step HB3.out hHeld)
      clear hHeld u0 y0 y2 HX3 HY3 HB3
      go_wp2_with fail
      go_roundg (c.off.length - (i + 1))
      case measure => omega
      case rel => exact ⟨i + 1, by omega, by omega, by first | rfl | go_num, HX4, HB4⟩
  · have hz1 : decide (i < c.off.length) = false := by simp; omega
    have hz2 : decide ((i : Int) < (c.off.length : Int)) = false := by simp; omega
    clear hlt
    have hn1 := HV.out.n1
    have y1 : wr.cell? ⟨w.heap.size, 1, none⟩ = some (.slice A1 c.sv.length c1) := (blk_cell HX.out 1).trans rfl
    clear hi hgi
    go_wp2_with fail
    clear y1
    go_loopg [6, 7, 8, 45] c.sv.length (fun gg s6 s7 s8 s45 wr => ∃ i : Nat, i ≤ c.sv.length ∧ c.sv.length - i ≤ gg ∧ s45 = .int .i64 (i : Int) ∧ Aside0 (wr.heap[w.heap.size]? = some (.cells (c.cells ⟨A1, c1, A2, c2, A3, c3, A4, c4⟩) 31 (0, 0))) ∧ Aside0 (Below w.heap.size w wr))
    case atStart => exact ⟨0, Nat.zero_le _, by omega, rfl, HX, HB⟩
    case round =>
    clear HX HB
    obtain ⟨i, hi, hgi, rfl, HX, HB⟩ := hrel
    by_cases hlt : i < c.sv.length
    · have hgap := HV.out.gap i hlt
      obtain ⟨ad, A5, c5, e, t0, t1, t2, t3, t4, t5, l5, k5⟩ := at_T64 HR.out.r1 (i : Int) (by omega) (by omega)
      dsimp only at e
      subst e
      simp only [Int.toNat_natCast] at t0 t1 t2 t3 t4 t5
      rw [rd64 c.sv i hlt] at t0 t1 t2 t3 t4 t5 l5 k5
      replace t0 := (HB.out.cell (World.block_lt_of_cell? _ _ t0)).trans t0
      replace t1 := (HB.out.cell (World.block_lt_of_cell? _ _ t1)).trans t1
      replace t2 := (HB.out.cell (World.block_lt_of_cell? _ _ t2)).trans t2
      replace t3 := (HB.out.cell (World.block_lt_of_cell? _ _ t3)).trans t3
      replace t4 := (HB.out.cell (World.block_lt_of_cell? _ _ t4)).trans t4
      replace t5 := (HB.out.cell (World.block_lt_of_cell? _ _ t5)).trans t5
      generalize c.sv[i] = x at hgap t0 t1 t2 t3 t4 t5
      have hz1 : (i : Int) < (c.sv.length : Int) := by omega
      clear l5 k5
      go_upto_region 12 with fail
      have HX1 := Aside0.mk (blk_alloc HX.out (.cells #[.string x.f0, .int .i64 x.f1, .int .i64 x.f2, .int .i64 x.f3, .int .i64 x.f4, .slice A5 x.f5.length c5] 64))
      have HY1 := Aside0.mk (blk_new wr (.cells #[.string x.f0, .int .i64 x.f1, .int .i64 x.f2, .int .i64 x.f3, .int .i64 x.f4, .slice A5 x.f5.length c5] 64))
      have HB1 := Aside0.mk (below_alloc HB.out (.cells #[.string x.f0, .int .i64 x.f1, .int .i64 x.f2, .int .i64 x.f3, .int .i64 x.f4, .slice A5 x.f5.length c5] 64))
      clear t0 t1 t2 t3 t4 t5
      generalize hgb : wr.heap.size = gb at HY1 ⊢
      generalize wr.alloc (.cells #[.string x.f0, .int .i64 x.f1, .int .i64 x.f2, .int .i64 x.f3, .int .i64 x.f4, .slice A5 x.f5.length c5] 64) = v0 at HX1 HY1 HB1 ⊢
      obtain ⟨q0, q1, q2, q3, q4, q5, q6, q7, q8, q9, q10, q11⟩ := cfg12 HX1.out
      have y1 : v0.cell? ⟨gb, 1, none⟩ = some (.int .i64 x.f1) := (blk_cell HY1.out 1).trans rfl
      clear HY1
      go_wp2_with fail
      refine (offset_calls c ⟨(some ad), c1, A2, c2, A3, c3, A4, c4⟩ x.f1 _ (HR.out.below HB1.out)).mono ?_
      rintro e v1 ⟨rfl, hb1⟩
      have HX2 := Aside0.mk (blk_below HX1.out hb1)
      have HB2 := Aside0.mk (below_step HB1.out hb1)
      rw [hgap]
      clear hb1 HX1 HB1 y1 q0 q1 q2 q3 q4 q5 q6 q7 q8 q9 q10 q11
      go_wp2_with fail
      go_roundg (c.sv.length - (i + 1))
      case measure => omega
      case rel => exact ⟨i + 1, by omega, by omega, by first | rfl | go_num, HX2, HB2⟩
    · have hz1 : decide (i < c.sv.length) = false := by simp; omega
      have hz2 : decide ((i : Int) < (c.sv.length : Int)) = false := by simp; omega
      clear hlt
      go_wp2
      go_ret
      exact ⟨rfl, HB.out⟩
set_option maxHeartbeats 2000000 in
set_option maxRecDepth 100000 in
theorem ckS_walk (c : Cfg) (p : CfgAt) (w : World) (hR : CfgR w p c) (hv : Valid c) : Calls Try.prog 53 #[c.val p] w fun e w' => e = .returned (.int .i64 0) ∧ Below w.heap.size w w' := by
  obtain ⟨A1, c1, A2, c2, A3, c3, A4, c4⟩ := p
  have HR := Aside0.mk hR
  have HV := Aside0.mk hv
  have hn1 := hv.n1
  have HX0 := Aside0.mk (blk_new w (.cells (c.cells ⟨A1, c1, A2, c2, A3, c3, A4, c4⟩) 31))
  have HB0 := Aside0.mk (below_alloc (Below.refl w.heap.size w) (.cells (c.cells ⟨A1, c1, A2, c2, A3, c3, A4, c4⟩) 31))
  clear hR hv
  go_enter Try.func53, Try.ntmps53
  go_wp2_with fail
  go_loopg [3, 4, 13] c.sv.length (fun gg s3 s4 s13 wr => ∃ i : Nat, i ≤ c.sv.length ∧ c.sv.length - i ≤ gg ∧ s13 = .int .i64 (i : Int) ∧ Aside0 (wr.heap[w.heap.size]? = some (.cells (c.cells ⟨A1, c1, A2, c2, A3, c3, A4, c4⟩) 31 (0, 0))) ∧ Aside0 (Below w.heap.size w wr))
  case atStart => exact ⟨0, Nat.zero_le _, by omega, rfl, HX0, HB0⟩
  case round =>
  clear HX0 HB0
  obtain ⟨i, hi, hgi, rfl, HX, HB⟩ := hrel
  by_cases hlt : i < c.sv.length
  · have hnm := Aside0.mk (HV.out.sname i hlt)
    have hix := HV.out.sidx i hlt
    obtain ⟨r0, r1, r2, r3, r4, r5, r6, r7⟩ := HV.out.srange i hlt
    have hsl := HV.out.slen i hlt
    obtain ⟨ad, A5, c5, e, t0, t1, t2, t3, t4, t5, l5, k5⟩ := at_T64 HR.out.r1 (i : Int) (by omega) (by omega)
    dsimp only at e
    subst e
    simp only [Int.toNat_natCast] at t0 t1 t2 t3 t4 t5
    rw [rd64 c.sv i hlt] at t0 t1 t2 t3 t4 t5 l5 k5
    replace t0 := (HB.out.cell (World.block_lt_of_cell? _ _ t0)).trans t0
    replace t1 := (HB.out.cell (World.block_lt_of_cell? _ _ t1)).trans t1
    replace t2 := (HB.out.cell (World.block_lt_of_cell? _ _ t2)).trans t2
    replace t3 := (HB.out.cell (World.block_lt_of_cell? _ _ t3)).trans t3
    replace t4 := (HB.out.cell (World.block_lt_of_cell? _ _ t4)).trans t4
    replace t5 := (HB.out.cell (World.block_lt_of_cell? _ _ t5)).trans t5
    clear k5
    generalize c.sv[i] = x at hnm hix r0 r1 r2 r3 r4 r5 r6 r7 hsl t0 t1 t2 t3 t4 t5 l5
    have hz1 : (i : Int) < (c.sv.length : Int) := by omega
    have H1 := Aside0.mk (fun W => outside_no x.f1 1 1048576 W r0 r1)
    have H2 := Aside0.mk (fun W => outside_no x.f2 0 1048576 W r2 r3)
    have H3 := Aside0.mk (fun W => outside_no x.f3 0 1048576 W r4 r5)
    have H4 := Aside0.mk (fun W => outside_no x.f4 0 1000000 W r6 r7)
    clear r0 r1 r2 r3 r4 r5 r6 r7 l5
    go_upto_region 4 with fail
    have HX1 := Aside0.mk (blk_alloc HX.out (.cells #[.string x.f0, .int .i64 x.f1, .int .i64 x.f2, .int .i64 x.f3, .int .i64 x.f4, .slice A5 x.f5.length c5] 64))
    have HY1 := Aside0.mk (blk_new wr (.cells #[.string x.f0, .int .i64 x.f1, .int .i64 x.f2, .int .i64 x.f3, .int .i64 x.f4, .slice A5 x.f5.length c5] 64))
    have HB1 := Aside0.mk (below_alloc HB.out (.cells #[.string x.f0, .int .i64 x.f1, .int .i64 x.f2, .int .i64 x.f3, .int .i64 x.f4, .slice A5 x.f5.length c5] 64))
    clear t0 t1 t2 t3 t4 t5
    generalize hgb : wr.heap.size = gb at HY1 ⊢
    generalize wr.alloc (.cells #[.string x.f0, .int .i64 x.f1, .int .i64 x.f2, .int .i64 x.f3, .int .i64 x.f4, .slice A5 x.f5.length c5] 64) = v0 at HX1 HY1 HB1 ⊢
    have y0 : v0.cell? ⟨gb, 0, none⟩ = some (.string x.f0) := (blk_cell HY1.out 0).trans rfl
    go_wp2_with fail
    refine (name_calls x.f0 hnm.out _).mono ?_
    rintro e v1 ⟨rfl, hb1⟩
    have HX2 := Aside0.mk (blk_below HX1.out hb1)
    have HY2 := Aside0.mk (blk_below HY1.out hb1)
    have HB2 := Aside0.mk (below_step HB1.out hb1)
    obtain ⟨q0, q1, q2, q3, q4, q5, q6, q7, q8, q9, q10, q11⟩ := cfg12 HX2.out
    replace y0 : v1.cell? ⟨gb, 0, none⟩ = some (.string x.f0) := (blk_cell HY2.out 0).trans rfl
    clear hb1 HX1 HY1 HB1
    go_wp2_with fail
    refine (index_calls c ⟨(some ad), c1, A2, c2, A3, c3, A4, c4⟩ x.f0 _ (HR.out.below HB2.out)).mono ?_
    rintro e v2 ⟨rfl, hb1⟩
    have z2 : decide (svIdx c.sv x.f0 < (i : Int)) = false := by simp; omega
    have HX3 := Aside0.mk (blk_below HX2.out hb1)
    have HY3 := Aside0.mk (blk_below HY2.out hb1)
    have HB3 := Aside0.mk (below_step HB2.out hb1)
    clear hb1 HX2 HY2 HB2 y0 q0 q1 q2 q3 q4 q5 q6 q7 q8 q9 q10 q11 hix
    have y1 : v2.cell? ⟨gb, 1, none⟩ = some (.int .i64 x.f1) := (blk_cell HY3.out 1).trans rfl
    generalize svIdx c.sv x.f0 = si at z2 ⊢
    go_wp2_with fail
    refine (H1.out _).mono ?_
    rintro e v3 ⟨rfl, hb1⟩
    have HX4 := Aside0.mk (blk_below HX3.out hb1)
    have HY4 := Aside0.mk (blk_below HY3.out hb1)
    have HB4 := Aside0.mk (below_step HB3.out hb1)
    have y2 : v3.cell? ⟨gb, 2, none⟩ = some (.int .i64 x.f2) := (blk_cell HY4.out 2).trans rfl
    clear hb1 y1 HX3 HY3 HB3
    go_wp2_with fail
    refine (H2.out _).mono ?_
    rintro e v4 ⟨rfl, hb1⟩
    have HX5 := Aside0.mk (blk_below HX4.out hb1)
    have HY5 := Aside0.mk (blk_below HY4.out hb1)
    have HB5 := Aside0.mk (below_step HB4.out hb1)
    have y3 : v4.cell? ⟨gb, 3, none⟩ = some (.int .i64 x.f3) := (blk_cell HY5.out 3).trans rfl
    clear hb1 y2 HX4 HY4 HB4
    go_wp2_with fail
    refine (H3.out _).mono ?_
    rintro e v5 ⟨rfl, hb1⟩
    have HX6 := Aside0.mk (blk_below HX5.out hb1)
    have HY6 := Aside0.mk (blk_below HY5.out hb1)
    have HB6 := Aside0.mk (below_step HB5.out hb1)
    have y4 : v5.cell? ⟨gb, 4, none⟩ = some (.int .i64 x.f4) := (blk_cell HY6.out 4).trans rfl
    clear hb1 y3 HX5 HY5 HB5
    go_wp2_with fail
    refine (H4.out _).mono ?_
    rintro e v6 ⟨rfl, hb1⟩
    have HX7 := Aside0.mk (blk_below HX6.out hb1)
    have HY7 := Aside0.mk (blk_below HY6.out hb1)
    have HB7 := Aside0.mk (below_step HB6.out hb1)
    have y5 : v6.cell? ⟨gb, 5, none⟩ = some (.slice A5 x.f5.length c5) := (blk_cell HY7.out 5).trans rfl
    clear hb1 y4 HX6 HY6 HB6
    have z5 : decide ((8 : Int) < (x.f5.length : Int)) = false := by simp; omega
    go_wp2_with fail
    go_roundg (c.sv.length - (i + 1))
    case measure => omega
    case rel => exact ⟨i + 1, by omega, by omega, by first | rfl | go_num, HX7, HB7⟩
  · have hz1 : decide (i < c.sv.length) = false := by simp; omega
    have hz2 : decide ((i : Int) < (c.sv.length : Int)) = false := by simp; omega
    clear hlt hi hgi
    have y1 : wr.cell? ⟨w.heap.size, 1, none⟩ = some (.slice A1 c.sv.length c1) := (blk_cell HX.out 1).trans rfl
    go_wp2_with fail
    clear y1
    go_loopg [5, 6, 8, 9, 58] c.sv.length (fun gg s5 s6 s8 s9 s58 wr => ∃ i : Nat, i ≤ c.sv.length ∧ c.sv.length - i ≤ gg ∧ s58 = .int .i64 (i : Int) ∧ Aside0 (wr.heap[w.heap.size]? = some (.cells (c.cells ⟨A1, c1, A2, c2, A3, c3, A4, c4⟩) 31 (0, 0))) ∧ Aside0 (Below w.heap.size w wr))
    case atStart => exact ⟨0, Nat.zero_le _, by omega, rfl, HX, HB⟩
    case round =>
    clear HX HB hz1 hz2
    obtain ⟨i, hi, hgi, rfl, HX, HB⟩ := hrel
    by_cases hlt : i < c.sv.length
    · have hsl := HV.out.slen i hlt
      have hcl := Aside0.mk (HV.out.scall i hlt)
      obtain ⟨ad, A5, c5, e, t0, t1, t2, t3, t4, t5, l5, k5⟩ := at_T64 HR.out.r1 (i : Int) (by omega) (by omega)
      dsimp only at e
      subst e
      simp only [Int.toNat_natCast] at t0 t1 t2 t3 t4 t5
      rw [rd64 c.sv i hlt] at t0 t1 t2 t3 t4 t5 l5 k5
      replace t0 := (HB.out.cell (World.block_lt_of_cell? _ _ t0)).trans t0
      replace t1 := (HB.out.cell (World.block_lt_of_cell? _ _ t1)).trans t1
      replace t2 := (HB.out.cell (World.block_lt_of_cell? _ _ t2)).trans t2
      replace t3 := (HB.out.cell (World.block_lt_of_cell? _ _ t3)).trans t3
      replace t4 := (HB.out.cell (World.block_lt_of_cell? _ _ t4)).trans t4
      replace t5 := (HB.out.cell (World.block_lt_of_cell? _ _ t5)).trans t5
      have K5 := Aside0.mk (Kd.C_below k5 HB.out)
      clear k5
      generalize c.sv[i] = x at hcl hsl t0 t1 t2 t3 t4 t5 l5 K5
      have hz1 : (i : Int) < (c.sv.length : Int) := by omega
      go_upto_region 16 with fail
      replace K5 := Aside0.mk (Kd.C_below K5.out (below_alloc (Below.refl _ _) (.cells #[.string x.f0, .int .i64 x.f1, .int .i64 x.f2, .int .i64 x.f3, .int .i64 x.f4, .slice A5 x.f5.length c5] 64)))
      have HX1 := Aside0.mk (blk_alloc HX.out (.cells #[.string x.f0, .int .i64 x.f1, .int .i64 x.f2, .int .i64 x.f3, .int .i64 x.f4, .slice A5 x.f5.length c5] 64))
      have HY1 := Aside0.mk (blk_new wr (.cells #[.string x.f0, .int .i64 x.f1, .int .i64 x.f2, .int .i64 x.f3, .int .i64 x.f4, .slice A5 x.f5.length c5] 64))
      have HB1 := Aside0.mk (below_alloc HB.out (.cells #[.string x.f0, .int .i64 x.f1, .int .i64 x.f2, .int .i64 x.f3, .int .i64 x.f4, .slice A5 x.f5.length c5] 64))
      clear t0 t1 t2 t3 t4 t5
      generalize hgb : wr.heap.size = gb at HY1 ⊢
      generalize wr.alloc (.cells #[.string x.f0, .int .i64 x.f1, .int .i64 x.f2, .int .i64 x.f3, .int .i64 x.f4, .slice A5 x.f5.length c5] 64) = v0 at HX1 HY1 HB1 K5 ⊢
      have y5 : v0.cell? ⟨gb, 5, none⟩ = some (.slice A5 x.f5.length c5) := (blk_cell HY1.out 5).trans rfl
      clear HY1
      go_wp2_with fail
      clear y5
      go_loopg [8, 9, 66] x.f5.length (fun gg s8 s9 s66 wr => ∃ j : Nat, j ≤ x.f5.length ∧ x.f5.length - j ≤ gg ∧ s66 = .int .i64 (j : Int) ∧ Aside0 (wr.heap[w.heap.size]? = some (.cells (c.cells ⟨(some ad), c1, A2, c2, A3, c3, A4, c4⟩) 31 (0, 0))) ∧ Aside0 (Below w.heap.size w wr) ∧ Aside0 (Kd.string.C wr A5 x.f5.length x.f5))
      case atStart => exact ⟨0, Nat.zero_le _, by omega, rfl, HX1, HB1, K5⟩
      case round =>
      clear HX1 HB1 K5 HX HB
      obtain ⟨j, hj, hgj, rfl, HX, HB, K5⟩ := hrel
      by_cases hlj : j < x.f5.length
      · obtain ⟨ad5, e5, u0⟩ := Kd.at_string K5.out (j : Int) (by omega) (by omega)
        subst e5
        simp only [Int.toNat_natCast] at u0
        have hlt2 := hcl.out (rdOf ByteArray.empty x.f5 (j : Int)) (by
          unfold rdOf
          rw [Int.toNat_natCast, List.getD_eq_getElem?_getD, List.getElem?_eq_getElem hlj]
          exact List.getElem_mem _)
        generalize rdOf ByteArray.empty x.f5 (j : Int) = nm at u0 hlt2
        have hz3 : (j : Int) < (x.f5.length : Int) := by omega
        go_upto_region 19 with fail
        clear u0
        obtain ⟨q0, q1, q2, q3, q4, q5, q6, q7, q8, q9, q10, q11⟩ := cfg12 HX.out
        go_wp2_with fail
        refine (index_calls c ⟨(some ad), c1, A2, c2, A3, c3, A4, c4⟩ nm _ (HR.out.below HB.out)).mono ?_
        rintro e v2 ⟨rfl, hb1⟩
        have HX3 := Aside0.mk (blk_below HX.out hb1)
        have HB3 := Aside0.mk (below_step HB.out hb1)
        have K53 := Aside0.mk (Kd.C_below K5.out hb1)
        clear hb1 HX HB K5 q0 q1 q2 q3 q4 q5 q6 q7 q8 q9 q10 q11
        have z2 : decide (svIdx c.sv nm < 0) = false := by simp; omega
        have z3 : decide (svIdx c.sv nm ≤ (i : Int)) = false := by simp; omega
        clear hlt2
        generalize svIdx c.sv nm = si at z2 z3 ⊢
        go_wp2_with fail
        go_roundg (x.f5.length - (j + 1))
        case measure => omega
        case rel => exact ⟨j + 1, by omega, by omega, by first | rfl | go_num, HX3, HB3, K53⟩
      · have hz3 : decide (j < x.f5.length) = false := by simp; omega
        have hz4 : decide ((j : Int) < (x.f5.length : Int)) = false := by simp; omega
        clear hlj
        go_wp2_with fail
        go_roundg (c.sv.length - (i + 1))
        case measure => omega
        case rel => exact ⟨i + 1, by omega, by omega, by first | rfl | go_num, HX, HB⟩
    · have hz1 : decide (i < c.sv.length) = false := by simp; omega
      have hz2 : decide ((i : Int) < (c.sv.length : Int)) = false := by simp; omega
      clear hlt
      go_wp2
      go_ret
      exact ⟨rfl, HB.out⟩
noncomputable def ckAll (k : Nat) (c : Cfg) : Option Int := open Classical in if Valid c then some 0 else none
theorem ckAll_ok {c : Cfg} (hv : Valid c) (k : Nat) : ckAll k c = some 0 := if_pos hv
set_option maxHeartbeats 4000000 in
set_option maxRecDepth 100000 in
theorem check_calls (k : Nat) (c : Cfg) (p : CfgAt) (r : Int) (w : World) (hR : CfgR w p c) (h : ckAll k c = some r) :
    Calls Try.prog 27 #[c.val p] w fun e w' => e = .returned (.int .i64 r) ∧ Below w.heap.size w w' := by
  have HR := Aside0.mk hR
  clear hR
  unfold ckAll at h
  split at h
  case isFalse => cases h
  case isTrue hv =>
  obtain rfl := Option.some.inj h
  have b0 := hv.seed0
  have b1 := hv.seed1
  have b2 := hv.n0
  have b3 := hv.n1
  have b4 := hv.nf
  have k1 : decide (c.seed < 0 ∨ 1048576 < c.seed) = false := by simp; omega
  have k2 : ((c.sv.length : Int) == 0) = false := by simp; intro h; simp [h] at b2
  have k3 : decide ((16 : Int) < (c.sv.length : Int)) = false := by simp; omega
  have k4 : decide ((16 : Int) < (c.fl.length : Int)) = false := by simp; omega
  have HV := Aside0.mk hv
  clear h hv b0 b1 b2 b3 b4
  go_enter Try.func27, Try.ntmps27
  go_wp2_with (go_at_call 52; refine (outside_calls _ _ _ _).mono ?_; rintro e w1 ⟨rfl, ⟨nd, rfl⟩⟩)
  have x0 : ∀ (a b c d e : Value) (W : World), (Instr.index 119 (.agg #[a, b, c, d, e]) (.int .i64 0)).run Try.prog W = .ok a W := fun _ _ _ _ _ _ => by kernel_rfl
  have x1 : ∀ (a b c d e : Value) (W : World), (Instr.index 119 (.agg #[a, b, c, d, e]) (.int .i64 1)).run Try.prog W = .ok b W := fun _ _ _ _ _ _ => by kernel_rfl
  have x2 : ∀ (a b c d e : Value) (W : World), (Instr.index 119 (.agg #[a, b, c, d, e]) (.int .i64 2)).run Try.prog W = .ok c W := fun _ _ _ _ _ _ => by kernel_rfl
  have x3 : ∀ (a b c d e : Value) (W : World), (Instr.index 119 (.agg #[a, b, c, d, e]) (.int .i64 3)).run Try.prog W = .ok d W := fun _ _ _ _ _ _ => by kernel_rfl
  have x4 : ∀ (a b c d e : Value) (W : World), (Instr.index 119 (.agg #[a, b, c, d, e]) (.int .i64 4)).run Try.prog W = .ok e W := fun _ _ _ _ _ _ => by kernel_rfl
  go_loopg [38] 5 (fun gg s38 wr => ∃ (i : Nat), i ≤ 5 ∧ 5 - i ≤ gg ∧ s38 = .int .i64 i ∧ Aside0 (wr.heap[w.heap.size]? = some (.cells (c.cells p) 31 (0, 0))) ∧ Aside0 (Below w.heap.size w wr))
  case atStart =>
    refine ⟨0, by omega, by omega, by rfl, ⟨?_⟩, ⟨?_⟩⟩
    · repeat (first | (with_reducible exact blk_new w _) | (with_reducible refine blk_drewN ?_ _) | (with_reducible refine blk_drew ?_) | (with_reducible refine blk_alloc ?_ _))
    · repeat (first | exact Below.refl _ _ | apply below_alloc | apply pw_below_drewN)
  case round =>
    obtain ⟨i, hi, hgi, rfl, BK, HB⟩ := hrel
    by_cases hlt : i < 5
    · match i, hlt with
      | 0, _ =>
        go_wp2_with fail
        refine (ckS_walk c p _ (HR.out.below HB.out) HV.out).mono ?_
        rintro e w1 ⟨rfl, hb1⟩
        go_wp2_with fail
        go_roundg (5 - (0 + 1))
        case measure => omega
        case rel => exact ⟨0 + 1, by omega, by omega, by rfl, ⟨blk_below BK.out hb1⟩, ⟨below_step HB.out hb1⟩⟩
      | 1, _ =>
        go_wp2_with fail
        refine (ckO_walk c p _ (HR.out.below HB.out) HV.out).mono ?_
        rintro e w1 ⟨rfl, hb1⟩
        go_wp2_with fail
        go_roundg (5 - (1 + 1))
        case measure => omega
        case rel => exact ⟨1 + 1, by omega, by omega, by rfl, ⟨blk_below BK.out hb1⟩, ⟨below_step HB.out hb1⟩⟩
      | 2, _ =>
        have HC := Aside0.mk (ckD_calls c p w.heap.size wr (HR.out.below HB.out) BK.out)
        rw [HV.out.ch] at HC
        go_wp2_with fail
        refine HC.out.mono ?_
        rintro e w1 ⟨rfl, hb1⟩
        go_wp2_with fail
        go_roundg (5 - (2 + 1))
        case measure => omega
        case rel => exact ⟨2 + 1, by omega, by omega, by rfl, ⟨blk_below BK.out hb1⟩, ⟨below_step HB.out hb1⟩⟩
      | 3, _ =>
        go_wp2_with fail
        refine (ckF_walk c p _ (HR.out.below HB.out) HV.out).mono ?_
        rintro e w1 ⟨rfl, hb1⟩
        go_wp2_with fail
        go_roundg (5 - (3 + 1))
        case measure => omega
        case rel => exact ⟨3 + 1, by omega, by omega, by rfl, ⟨blk_below BK.out hb1⟩, ⟨below_step HB.out hb1⟩⟩
      | 4, _ =>
        go_wp2_with fail
        refine (ckR_walk c p _ (HR.out.below HB.out) HV.out).mono ?_
        rintro e w1 ⟨rfl, hb1⟩
        go_wp2_with fail
        go_roundg (5 - (4 + 1))
        case measure => omega
        case rel => exact ⟨4 + 1, by omega, by omega, by rfl, ⟨blk_below BK.out hb1⟩, ⟨below_step HB.out hb1⟩⟩
    · obtain rfl : i = 5 := by omega
      go_wp2_with fail
      go_ret
      exact ⟨by rfl, HB.out⟩
end Go.Proofs.Ytdadnapfecmmdaa.P
namespace Go.Proofs.Ytdadnapfecmmdaa.P
set_option linter.unusedVariables false
open Go.RowKit Go.Proofs.YtdadnapfecmmdaaW.PrintWords Go.Proofs.YtdadnapfecmmdaaW.PrintLast Go.Proofs.YtdadnapfecmmdaaW.PrintMore
theorem w1 (i : Int) (h0 : 0 ≤ i) (h1 : i ≤ 1000000) : wrap64 (i + 1) = i + 1 := by unfold wrap64; omega
end Go.Proofs.Ytdadnapfecmmdaa.P
namespace Go.Proofs.Ytdadnapfecmmdaa.P
set_option linter.unusedVariables false
set_option linter.unusedSimpArgs false
open Go.RowKit Go.Proofs.YtdadnapfecmmdaaW.PrintWords Go.Proofs.YtdadnapfecmmdaaW.PrintLast Go.Proofs.YtdadnapfecmmdaaW.PrintMore
open Go.Proofs.Ytdadnapfecmmdaa.Hm
theorem cmpInt_ord (a b : Int) : cmp_Compare_int.f a b = some (ordV a b) := by
  unfold cmp_Compare_int.f cmp_isNaN_int.f ordV
  simp only [Option.bind_some, bne_self_eq_false, Bool.false_eq_true, if_false]
  split
  · rfl
  · split <;> rfl
theorem or_first (l : List Int) (hl : l.length ≤ 1000) (d : Nat) : ∀ i : Nat, i + d = l.length → ∀ k, d + 1 ≤ k → cmp_Or_int.l0 k 0 l (l.length : Int) (i : Int) = some (firstNz (l.drop i)) := by
  induction d with
  | zero =>
    intro i hi k hk
    obtain ⟨k, rfl⟩ : ∃ m, k = m + 1 := ⟨k - 1, by omega⟩
    simp only [cmp_Or_int.l0]
    rw [if_neg (by omega), List.drop_of_length_le (by omega)]
    rfl
  | succ d ih =>
    intro i hi k hk
    obtain ⟨k, rfl⟩ : ∃ m, k = m + 1 := ⟨k - 1, by omega⟩
    have hr : rd l (i : Int) = l[i] := by unfold rd; simp [List.getD_eq_getElem?_getD, show i < l.length by omega]
    simp only [cmp_Or_int.l0]
    rw [if_pos (by omega), if_pos (by omega), if_pos (by omega), hr, firstNz_drop l i (by omega), w1 _ (by omega) (by omega)]
    by_cases h : l[i] = 0
    · rw [if_pos h, if_pos h]
      exact ih (i + 1) (by omega) k (by omega)
    · rw [if_neg h, if_neg h]
theorem chgCmp_eq (a b : S100) : chgCmp a b = cmp47 a b := by
  unfold chgCmp deployment_Compare.f cmp_Compare_string.f cmp_Or_int.f
  simp only [cmpInt_ord, Option.bind_some]
  have h := or_first [ordV a.f2 b.f2, ordV a.f0 b.f0, ordV a.f1 b.f1, cmpStr a.f3 b.f3, cmpStr a.f4 b.f4, cmpStr a.f5 b.f5] (by simp) 6 0 (by simp) 10 (by omega)
  rw [show ((0 : Nat) : Int) = 0 from rfl] at h
  rw [h]
  rfl
def lexlt (a b : S100) : Prop := a.f2 < b.f2 ∨ (a.f2 = b.f2 ∧ a.f0 < b.f0)
theorem cmp47_lt (a b : S100) (hne : a.f0 ≠ b.f0) : cmp47 a b < 0 ↔ lexlt a b := by
  unfold cmp47 lexlt
  simp only [firstNz, ordV]
  by_cases h1 : a.f2 < b.f2
  · simp [h1]
  · by_cases h2 : a.f2 > b.f2
    · simp [h1, h2]; omega
    · have h3 : a.f2 = b.f2 := by omega
      by_cases h4 : a.f0 < b.f0
      · simp [h3, h4]
      · have h5 : a.f0 > b.f0 := by omega
        simp [h3, h4, h5]
def Apart (a b : S100) : Prop := lexlt a b ∧ a.f0 ≠ b.f0
theorem lexlt_trans {a b c : S100} (h : lexlt a b) (k : lexlt b c) : lexlt a c := by
  unfold lexlt at *
  omega
theorem lexlt_total {a b : S100} (hne : a.f0 ≠ b.f0) (h : ¬ lexlt a b) : lexlt b a := by
  unfold lexlt at *
  omega
theorem ins_mem (x : S100) (l : List S100) (k : Nat) (z : S100) (h : z ∈ l.take k ++ [x] ++ l.drop k) : z ∈ l ∨ z = x := by
  simp only [List.mem_append, List.mem_singleton] at h
  rcases h with (h | h) | h
  · exact .inl (List.mem_of_mem_take h)
  · exact .inr h
  · exact .inl (List.mem_of_mem_drop h)
theorem ins_apart (x : S100) (l : List S100) (hp : l.Pairwise Apart) (hne : ∀ y ∈ l, y.f0 ≠ x.f0) : (l.take (insAt x l) ++ [x] ++ l.drop (insAt x l)).Pairwise Apart := by
  induction l with
  | nil => simp [insAt]
  | cons y r ih =>
    have hy := hne y (by simp)
    rw [List.pairwise_cons] at hp
    by_cases hc : cmp47 y x < 0
    · have e : insAt x (y :: r) = insAt x r + 1 := by simp only [insAt]; rw [if_pos hc]
      rw [e]
      simp only [List.take_succ_cons, List.drop_succ_cons, List.cons_append]
      rw [List.pairwise_cons]
      refine ⟨fun z hz => ?_, ih hp.2 (fun z hz => hne z (by simp [hz]))⟩
      rcases ins_mem x r _ z hz with h | h
      · exact hp.1 z h
      · rw [h]; exact ⟨(cmp47_lt y x hy).mp hc, hy⟩
    · have e : insAt x (y :: r) = 0 := by simp only [insAt]; rw [if_neg hc]
      rw [e]
      simp only [List.take_zero, List.drop_zero, List.nil_append, List.singleton_append]
      have hxy : lexlt x y := lexlt_total hy (fun h => hc ((cmp47_lt y x hy).mpr h))
      rw [List.pairwise_cons]
      refine ⟨fun z hz => ?_, List.pairwise_cons.mpr hp⟩
      rcases List.mem_cons.mp hz with h | h
      · rw [h]; exact ⟨hxy, Ne.symm hy⟩
      · exact ⟨lexlt_trans hxy (hp.1 z h).1, Ne.symm (hne z (by simp [h]))⟩
theorem insNew_true (x : S100) (l : List S100) (hne : ∀ y ∈ l, y.f0 ≠ x.f0) : insNew x l = true := by
  unfold insNew
  split
  · rfl
  · rename_i h
    have hk : insAt x l < l.length := by have := insAt_le x l; omega
    have e : rd_T100 l (insAt x l : Int) = l[insAt x l] := by unfold rd_T100; simp [List.getD_eq_getElem?_getD, hk]
    have hm := hne l[insAt x l] (List.getElem_mem hk)
    rw [e]
    have : (l[insAt x l].f0 == x.f0) = false := by simpa using hm
    unfold same100
    rw [this]
    rfl
theorem srt_inv (ok : S100 → Prop) (l : List S100) (hid : ∀ i (h : i < l.length), l[i].f0 = (i : Int) + 1) (hok : ∀ x ∈ l, ok x) (k : Nat) (hk : k ≤ l.length) :
    (srt47 (l.take k)).Pairwise Apart ∧ ∀ y ∈ srt47 (l.take k), ok y ∧ 1 ≤ y.f0 ∧ y.f0 ≤ (k : Int) := by
  induction k with
  | zero => simp [srt47]
  | succ k ih =>
    obtain ⟨h1, h2⟩ := ih (by omega)
    have e : rd_T100 l (k : Int) = l[k] := by unfold rd_T100; simp [List.getD_eq_getElem?_getD, show k < l.length by omega]
    have hk1 := hid k (by omega)
    rw [srt47_take l k (by omega), e]
    have hne : ∀ y ∈ srt47 (l.take k), y.f0 ≠ l[k].f0 := fun y hy => by have := (h2 y hy).2.2; rw [hk1]; omega
    unfold ins47
    rw [if_pos (insNew_true _ _ hne)]
    refine ⟨ins_apart _ _ h1 hne, fun y hy => ?_⟩
    rcases ins_mem _ _ _ y hy with h | h
    · obtain ⟨a, b, c⟩ := h2 y h
      exact ⟨a, b, by omega⟩
    · rw [h, hk1]
      exact ⟨hok _ (List.getElem_mem _), by omega, by omega⟩
theorem depCk_ok (l : List S100) (hp : l.Pairwise Apart) (hok : ∀ y ∈ l, chkOne y = 0) (n : Nat) : ∀ (m : List (Int × Bool)) (i : Nat), i + n = l.length → (∀ id, mget m id ≠ none → ∃ j, ∃ h : j < l.length, j < i ∧ l[j].f0 = id) → depCk l m i n = 0 := by
  induction n with
  | zero => intro m i _ _; rfl
  | succ n ih =>
    intro m i hi hm
    have hil : i < l.length := by omega
    have e : rd_T100 l (i : Int) = l[i] := by unfold rd_T100; simp [List.getD_eq_getElem?_getD, hil]
    have hpw := List.pairwise_iff_getElem.mp hp
    simp only [depCk, e]
    rw [if_neg (by rw [hok _ (List.getElem_mem hil)]; simp), if_neg, if_neg]
    · refine ih _ (i + 1) (by omega) (fun id hid => ?_)
      by_cases h : id = l[i].f0
      · exact ⟨i, hil, by omega, h.symm⟩
      · rw [mget_put_other _ _ _ _ h] at hid
        obtain ⟨j, hj, hji, he⟩ := hm id hid
        exact ⟨j, hj, by omega, he⟩
    · intro h
      obtain ⟨j, hj, hji, he⟩ := hm l[i].f0 (fun hn => by rw [hn] at h; simp at h)
      exact (hpw j i hj hil hji).2 he
    · rintro ⟨h0, h1⟩
      have e2 : rd_T100 l ((i : Int) - 1) = l[i - 1] := by
        rw [show (i : Int) - 1 = ((i - 1 : Nat) : Int) from by omega]
        unfold rd_T100; simp [List.getD_eq_getElem?_getD, show i - 1 < l.length by omega]
      have hap := hpw (i - 1) i (by omega) hil (by omega)
      rw [e2, chgCmp_eq, cmp47_lt _ _ (Ne.symm hap.2)] at h1
      have := hap.1
      unfold lexlt at h1 this
      omega
theorem name_ok (s : ByteArray) (h : s = nmW ∨ s = nmA ∨ s = nmD ∨ s = nmC ∨ s = ⟨#[118, 49]⟩ ∨ s = ⟨#[118, 50]⟩ ∨ s = ⟨#[118, 51]⟩) : NameOk s := by
  rcases h with rfl | rfl | rfl | rfl | rfl | rfl | rfl <;> exact NameOk.of (by kernel_rfl)
theorem nm47_ok (i : Nat) : NameOk (nm47 i) := by
  match i with
  | 0 => exact name_ok _ (by simp [nm47])
  | 1 => exact name_ok _ (by simp [nm47])
  | 2 => exact name_ok _ (by simp [nm47])
  | _ + 3 => exact name_ok _ (by simp [nm47])
theorem ver47_ok (i : Nat) : NameOk (ver47 i) := by
  match i with
  | 0 => exact name_ok _ (by simp [ver47])
  | 1 => exact name_ok _ (by simp [ver47])
  | _ + 2 => exact name_ok _ (by simp [ver47])
theorem chkOne_ok (c : S100) (a0 : 1 ≤ c.f0) (a1 : c.f0 ≤ 1000) (b0 : 0 ≤ c.f2) (b1 : c.f2 ≤ 1000) (hs : NameOk c.f3)
    (h : (c.f1 = 1 ∧ c.f4 = ⟨#[]⟩ ∧ NameOk c.f5) ∨ ((c.f1 = 2 ∨ c.f1 = 3) ∧ c.f5 = ⟨#[]⟩ ∧ NameOk c.f4)) : chkOne c = 0 := by
  obtain ⟨f0, f1, f2, f3, f4, f5⟩ := c
  dsimp only at *
  have key : ∀ (must other : ByteArray), other = ⟨#[]⟩ → NameOk must → 1 ≤ f1 → f1 ≤ 3 → deployment_checkOne.j0 79 must other f0 f1 f2 f3 f4 f5 = some 0 := by
    intro must other ho hm g0 g1
    have e1 : ¬ (f0 > 1099511627776) := by omega
    have e2 : ¬ (f1 > 3) := by omega
    have e3 : ¬ (f2 > 1048576) := by omega
    simp only [deployment_checkOne.j0]
    rw [if_neg (by omega), show decide (f0 > 1099511627776) = false from by simpa using e1]
    simp only [deployment_checkOne.j1, Bool.false_eq_true, if_false]
    rw [if_neg (by omega), show decide (f1 > 3) = false from by simpa using e2]
    simp only [deployment_checkOne.j2, Bool.false_eq_true, if_false]
    rw [if_neg (by omega), show decide (f2 > 1048576) = false from by simpa using e3]
    simp only [deployment_checkOne.j3, Bool.false_eq_true, if_false]
    rw [hs 75 (by omega)]
    simp only [Option.bind_some, if_true]
    rw [if_pos (by rw [ho]; kernel_rfl), hm 75 (by omega)]
    rfl
  unfold chkOne deployment_checkOne.f
  rcases h with ⟨h1, h2, h3⟩ | ⟨h1, h2, h3⟩
  · dsimp only
    rw [if_pos h1, key f5 f4 h2 h3 (by omega) (by omega)]
    rfl
  · dsimp only
    rw [if_neg (by omega), key f4 f5 h2 h3 (by omega) (by omega)]
    rfl
theorem chgOf_ok (x : S93) (id : Int) (a0 : 1 ≤ id) (a1 : id ≤ 1000) : chkOne (chgOf x id) = 0 ∧ (chgOf x id).f0 = id := by
  unfold chgOf
  split
  · exact ⟨chkOne_ok _ a0 a1 (by dsimp only; omega) (by dsimp only; omega) (nm47_ok _) (.inl ⟨rfl, rfl, ver47_ok _⟩), rfl⟩
  · refine ⟨chkOne_ok _ a0 a1 (by dsimp only; omega) (by dsimp only; omega) (nm47_ok _) (.inr ⟨?_, rfl, nm47_ok _⟩), rfl⟩
    dsimp only
    omega
theorem mkChgs_get (l : List S93) (k i : Nat) (h : i < (mkChgs l k).length) : (mkChgs l k)[i] = chgOf (rd_T93 l i) ((i : Int) + 1) := by
  simp [mkChgs]
theorem mkChgs_inv (l : List S93) : (chgs47 l).Pairwise Apart ∧ ∀ y ∈ chgs47 l, (chkOne y = 0 ∧ ∃ x, ∃ id, y = chgOf x id) ∧ 1 ≤ y.f0 ∧ y.f0 ≤ (min l.length 12 : Nat) := by
  have hl := mkChgs_len l (min l.length 12)
  have h := srt_inv (fun y => chkOne y = 0 ∧ ∃ x, ∃ id, y = chgOf x id) (mkChgs l (min l.length 12))
    (fun i hi => by rw [mkChgs_get]; rw [hl] at hi; exact (chgOf_ok _ _ (by omega) (by omega)).2)
    (fun x hx => by
      obtain ⟨i, hi, rfl⟩ := List.getElem_of_mem hx
      rw [mkChgs_get]
      rw [hl] at hi
      exact ⟨(chgOf_ok _ _ (by omega) (by omega)).1, _, _, rfl⟩) (min l.length 12) (by omega)
  rw [List.take_of_length_le (by omega)] at h
  exact h
theorem chgs_len (l : List S93) : (chgs47 l).length ≤ 12 := by
  unfold chgs47
  have hl := mkChgs_len l (min l.length 12)
  have := srt47_len (mkChgs l (min l.length 12)) (min l.length 12) (by omega)
  rw [List.take_of_length_le (by omega)] at this
  omega
theorem depCheck_ok (l : List S93) : depCheck (chgs47 l) = 0 := by
  unfold depCheck
  have := chgs_len l
  rw [if_neg (by omega)]
  exact depCk_ok _ (mkChgs_inv l).1 (fun y hy => ((mkChgs_inv l).2 y hy).1.1) _ [] 0 (by omega) (fun id h => absurd rfl h)
end Go.Proofs.Ytdadnapfecmmdaa.P
namespace Go.Proofs.Ytdadnapfecmmdaa.P
set_option linter.unusedVariables false
set_option linter.unusedSimpArgs false
open Go.RowKit Go.Proofs.YtdadnapfecmmdaaW.PrintWords Go.Proofs.YtdadnapfecmmdaaW.PrintLast Go.Proofs.YtdadnapfecmmdaaW.PrintMore
open Go.Proofs.Ytdadnapfecmmdaa.Hm
theorem nm4_ok (i : Nat) : NameOk (nm4 i) := by
  match i with
  | 0 => exact name_ok _ (by simp [nm4])
  | 1 => exact name_ok _ (by simp [nm4])
  | 2 => exact name_ok _ (by simp [nm4])
  | _ + 3 => exact name_ok _ (by simp [nm4])
theorem nm4_all : ((List.range 4).all fun i => (List.range 4).all fun j => ((nm4 i).toList == (nm4 j).toList) == decide (i = j)) = true := by kernel_rfl
theorem nm4_eq (i j : Nat) (hi : i < 4) (hj : j < 4) : ((nm4 i).toList == (nm4 j).toList) = decide (i = j) := by
  have h := List.all_eq_true.mp (List.all_eq_true.mp nm4_all i (List.mem_range.mpr hi)) j (List.mem_range.mpr hj)
  exact beq_iff_eq.mp h
theorem nm4_inj (i j : Nat) (hi : i < 4) (hj : j < 4) (h : nm4 i = nm4 j) : i = j := by
  have := nm4_eq i j hi hj
  rw [h] at this
  simpa using this
section
variable (p : Plan)
theorem plan_n0 : 1 ≤ p.n := by
  unfold Plan.n Plan.ps
  split
  · simp
  · rename_i h
    have := List.length_pos_iff.mpr h
    omega
theorem plan_n4 : p.n ≤ 4 := by unfold Plan.n; omega
theorem sv_len : p.sv.length = p.n := by simp [Plan.sv]
theorem sv_get (i : Nat) (h : i < p.sv.length) : p.sv[i] = svOf p.n i (rd_T87 p.ps i) := by simp [Plan.sv]
theorem sv_idx (j : Nat) (h : j < p.n) : svIdx p.sv (nm4 j) = (j : Int) := by
  have h4 := plan_n4 p
  have hl := sv_len p
  unfold svIdx
  refine idxBy_hit _ _ j (by omega) ?_ (fun i hi => ?_)
  · rw [sv_get]; simp [svOf]
  · rw [sv_get]
    simp only [svOf]
    rw [nm4_eq i j (by omega) (by omega)]
    simp; omega
theorem calls_mem (n i : Nat) (b : Int) (k : Nat) (nm : ByteArray) (h : nm ∈ callsOf n i b k) : ∃ j, i < j ∧ j < n ∧ nm = nm4 j := by
  unfold callsOf at h
  obtain ⟨j, hj, rfl⟩ := List.mem_map.mp h
  have := (List.mem_filter.mp hj).2
  simp only [Bool.and_eq_true, decide_eq_true_eq] at this
  exact ⟨i + 1 + j, by omega, this.1, rfl⟩
def bnd : Nat → Int
  | 0 => 0
  | d + 1 => 4 + 3 * bnd d
theorem bnd_range (d : Nat) (h : d ≤ 4) : 0 ≤ bnd d ∧ bnd d ≤ 160 := by
  match d, h with
  | 0, _ => decide
  | 1, _ => decide
  | 2, _ => decide
  | 3, _ => decide
  | 4, _ => decide
theorem cntSum_le (m : List (ByteArray × Int)) (B : Int) (hB : B ≤ 1000) (hm : ∀ x, 0 ≤ cntName m x ∧ cntName m x ≤ B) (l : List ByteArray) (hl : l.length ≤ 3) : 1 ≤ cntSum m l 1 ∧ cntSum m l 1 ≤ 4 + 3 * B := by
  have e : ∀ x : ByteArray, ∀ n : Int, 0 ≤ n → n ≤ 10000 → wrap64 (n + wrap64 (1 + cntName m x)) = n + (1 + cntName m x) := by
    intro x n h0 h1
    have := hm x
    unfold wrap64; omega
  match l, hl with
  | [], _ => simp only [cntSum]; have := hm ByteArray.empty; omega
  | [x], _ =>
    have := hm x
    simp only [cntSum]
    rw [e x 1 (by omega) (by omega)]
    omega
  | [x, y], _ =>
    have := hm x
    have := hm y
    simp only [cntSum]
    rw [e x 1 (by omega) (by omega), e y _ (by omega) (by omega)]
    omega
  | [x, y, z], _ =>
    have := hm x
    have := hm y
    have := hm z
    simp only [cntSum]
    rw [e x 1 (by omega) (by omega), e y _ (by omega) (by omega), e z _ (by omega) (by omega)]
    omega
  | _ :: _ :: _ :: _ :: _, h => simp at h
theorem cntMap_le (l : List S64) (hl : ∀ x ∈ l, x.f5.length ≤ 3) (h4 : l.length ≤ 4) : ∀ nm, 0 ≤ cntName (cntMap l) nm ∧ cntName (cntMap l) nm ≤ bnd l.length := by
  induction l with
  | nil => intro nm; simp [cntName, cntMap, mget, bnd]
  | cons s r ih =>
    intro nm
    simp only [List.length_cons] at h4
    have ih' := ih (fun x hx => hl x (by simp [hx])) (by omega)
    have hb := bnd_range r.length (by omega)
    have hs := cntSum_le (cntMap r) (bnd r.length) (by omega) ih' s.f5 (hl s (by simp))
    simp only [cntMap, List.length_cons, bnd]
    by_cases h : nm = s.f0
    · subst h
      unfold cntName
      rw [mget_put_same]
      simp only [Option.getD_some]
      omega
    · have e : cntName (mput (cntMap r) s.f0 (cntSum (cntMap r) s.f5 1)) nm = cntName (cntMap r) nm := by unfold cntName; rw [mget_put_other _ _ _ _ h]
      rw [e]
      have := ih' nm
      omega
theorem cfg_cnt : cntOf p.sv ≤ 256 := by
  have h4 := plan_n4 p
  have hl := sv_len p
  have h := cntMap_le p.sv (fun x hx => by
    obtain ⟨i, hi, rfl⟩ := List.getElem_of_mem hx
    rw [sv_get]
    exact callsOf_len _ _ _ _) (by omega) (rd_T64 p.sv 0).f0
  have hb := bnd_range p.sv.length (by omega)
  unfold cntOf
  omega
theorem off_gap (i : Nat) (h : i < p.sv.length) : (offOf p.offs (p.sv[i]).f1).2 = true := by
  rw [sv_get]
  simp only [svOf]
  have h0 : 1 + (rd_T87 p.ps i).f0 % 3 = 1 ∨ 1 + (rd_T87 p.ps i).f0 % 3 = 2 ∨ 1 + (rd_T87 p.ps i).f0 % 3 = 3 := by omega
  unfold offOf offIdx Plan.offs
  rcases h0 with h0 | h0 | h0 <;> rw [h0]
  · rw [idxBy_hit _ _ 0 (by simp) (by simp) (fun j hj => by omega)]; simp
  · rw [idxBy_hit _ _ 1 (by simp) (by simp) (fun j hj => by obtain rfl : j = 0 := by omega
                                                            simp)]; simp
  · rw [idxBy_hit _ _ 2 (by simp) (by simp) (fun j hj => by
      match j, hj with
      | 0, _ => simp
      | 1, _ => simp)]; simp
theorem tm21 (x : Int) : -20 ≤ x.tmod 21 ∧ x.tmod 21 ≤ 20 := by
  have h1 := Int.tmod_lt_of_pos x (show (0 : Int) < 21 by decide)
  have h2 := Int.lt_tmod_of_pos x (show (0 : Int) < 21 by decide)
  omega
theorem ver3_ok (i : Nat) : (ver3 i).toList = [] ∨ NameOk (ver3 i) := by
  match i with
  | 0 => left; kernel_rfl
  | 1 => right; exact name_ok _ (by simp [ver3])
  | _ + 2 => right; exact name_ok _ (by simp [ver3])
theorem cfg_valid (hok : PlanOk p) : Valid (p.cfg chgs47) := by
  have h4 := plan_n4 p
  have h0 := plan_n0 p
  have hl := sv_len p
  have hfl : p.flts.length ≤ 3 := by unfold Plan.flts; simp; omega
  have hfg : ∀ i (h : i < p.flts.length), ∃ x, p.flts[i] = trOf p.n x := fun i h => by
    unfold Plan.flts at h ⊢
    rw [List.getElem_map]
    exact ⟨_, rfl⟩
  obtain ⟨s0, s1⟩ := hok.seed
  refine ⟨?_, ?_, ?_, ?_, ?_, ?_, ?_, ?_, ?_, ?_, ?_, ?_, ?_, off_gap p, depCheck_ok _, ?_, ?_, ?_, ?_, ?_, ?_, ?_, ?_, ?_, ?_, ?_, ?_, ?_, ?_, ?_, ?_, ?_, ?_, cfg_cnt p⟩ <;> simp only [Plan.cfg]
  · omega
  · omega
  · omega
  · omega
  · omega
  · intro i h; rw [sv_get]; exact nm4_ok i
  · intro i h; rw [sv_get]; simp only [svOf]; rw [sv_idx p i (by omega)]; exact Int.le_refl _
  · intro i h; rw [sv_get]; simp only [svOf]; omega
  · intro i h; rw [sv_get]; have := callsOf_len p.n i (rd_T87 p.ps i).f4 3; simp only [svOf]; omega
  · intro i h nm hnm
    rw [sv_get] at hnm
    obtain ⟨j, h1, h2, rfl⟩ := calls_mem _ _ _ _ _ hnm
    rw [sv_idx p j h2]; omega
  · intro i h
    have := tm21 p.o0
    have := tm21 p.o1
    have := tm21 p.o2
    unfold Plan.offs at h ⊢
    simp only [List.length_cons, List.length_nil] at h
    match i, h with
    | 0, _ => dsimp only [List.getElem_cons_zero]; omega
    | 1, _ => dsimp only [List.getElem_cons_zero, List.getElem_cons_succ]; omega
    | 2, _ => dsimp only [List.getElem_cons_zero, List.getElem_cons_succ]; omega
  · unfold Plan.offs; simp
  · intro i h
    unfold Plan.offs at h ⊢
    simp only [List.length_cons, List.length_nil] at h
    match i, h with
    | 0, _ => dsimp only [List.getElem_cons_zero, List.getElem_cons_succ]; omega
    | 1, _ => dsimp only [List.getElem_cons_zero, List.getElem_cons_succ]; omega
  · intro i h
    obtain ⟨x, e⟩ := hfg i h
    rw [e]
    simp only [trOf]
    have hm0 := Int.emod_nonneg x.f0 (show ((p.n : Nat) : Int) ≠ 0 by omega)
    have hm1 := Int.emod_lt_of_pos x.f0 (show (0 : Int) < (p.n : Int) by omega)
    rw [sv_idx p _ (by omega)]; omega
  · intro i h
    obtain ⟨x, e⟩ := hfg i h
    rw [e]; exact ver3_ok _
  · intro i h
    obtain ⟨x, e⟩ := hfg i h
    rw [e]; simp only [trOf]; omega
  · intro i h
    obtain ⟨x, e⟩ := hfg i h
    rw [e]; simp only [trOf]; omega
  all_goals omega
end
end Go.Proofs.Ytdadnapfecmmdaa.P
namespace Go.Proofs.Ytdadnapfecmmdaa.P
set_option linter.unusedVariables false
set_option linter.unusedSimpArgs false
open Go.RowKit Go.Proofs.YtdadnapfecmmdaaW.PrintWords Go.Proofs.YtdadnapfecmmdaaW.PrintLast Go.Proofs.YtdadnapfecmmdaaW.PrintMore
open Go.Proofs.Ytdadnapfecmmdaa.Hm
theorem eff_l0 (l : List S100) (a : Nat) (ha : a < l.length) (m : List S100) (hm : m.length ≤ 1000) (x y : Int) (d : Nat) : ∀ i : Nat, i + d = m.length → ∃ r, ∀ k, d + 1 ≤ k → deployment_effect.l0 k l (a : Int) m (m.length : Int) (i : Int) x y = some r := by
  induction d with
  | zero =>
    intro i hi
    refine ⟨if x ≥ y then (0, 0) else (x, y), fun k hk => ?_⟩
    obtain ⟨k, rfl⟩ : ∃ q, k = q + 1 := ⟨k - 1, by omega⟩
    simp only [deployment_effect.l0]
    rw [if_neg (by omega)]
    split <;> rfl
  | succ d ih =>
    intro i hi
    obtain ⟨r, hr⟩ := ih (i + 1) (by omega)
    by_cases hs : ((rd_T100 m (i : Int)).f1 == (rd_T100 l (a : Int)).f1 && ((rd_T100 m (i : Int)).f3.toList == (rd_T100 l (a : Int)).f3.toList && ((rd_T100 m (i : Int)).f4.toList == (rd_T100 l (a : Int)).f4.toList))) = true
    · refine ⟨if x ≥ (rd_T100 m (i : Int)).f2 then (0, 0) else (x, (rd_T100 m (i : Int)).f2), fun k hk => ?_⟩
      obtain ⟨k, rfl⟩ : ∃ q, k = q + 1 := ⟨k - 1, by omega⟩
      simp only [deployment_effect.l0]
      rw [if_pos (by omega), if_pos (by omega), if_pos (by omega)]
      simp only [deployment_subjectOf.f, Option.bind_some]
      rw [if_pos (by omega), if_pos (by omega)]
      simp only [hs, if_true]
      split <;> rfl
    · refine ⟨r, fun k hk => ?_⟩
      obtain ⟨k, rfl⟩ : ∃ q, k = q + 1 := ⟨k - 1, by omega⟩
      simp only [deployment_effect.l0]
      rw [if_pos (by omega), if_pos (by omega), if_pos (by omega)]
      simp only [deployment_subjectOf.f, Option.bind_some]
      rw [if_pos (by omega), if_pos (by omega)]
      rw [if_neg hs, w1 _ (by omega) (by omega)]
      exact hr k (by omega)
theorem eff_ok (l : List S100) (hl : l.length ≤ 1000) (a : Nat) (ha : a < l.length) : ∃ r, ∀ k, l.length + 1 ≤ k → deployment_effect.f k l (a : Int) = some r := by
  obtain ⟨r, hr⟩ := eff_l0 l a ha (l.drop (a + 1)) (by simp; omega) (rd_T100 l (a : Int)).f2 1048577 (l.drop (a + 1)).length 0 (by omega)
  refine ⟨r, fun k hk => ?_⟩
  unfold deployment_effect.f
  rw [w1 _ (by omega) (by omega), if_pos (by omega), if_pos (by omega), if_pos (by omega), if_pos (by omega)]
  simp only [Option.bind_some]
  rw [show ((a : Int) + 1).toNat = a + 1 from by omega]
  exact hr k (by simp; omega)
abbrev Act := Int × Int × Int × ByteArray × ByteArray × ByteArray × Bool
def noAct : Act := (0, 0, 0, (⟨#[]⟩ : ByteArray), (⟨#[]⟩ : ByteArray), (⟨#[]⟩ : ByteArray), false)
def isAct (y : S100) : Act := (y.f0, y.f1, y.f2, y.f3, y.f4, y.f5, true)
theorem act_l0 (l : List S100) (hl : l.length ≤ 1000) (name : ByteArray) (slot : Int) (d : Nat) : ∀ i : Nat, i + d = l.length →
    ∃ r : Act, (∀ k, d + l.length + 2 ≤ k → deployment_Active.l0 k l name slot l (l.length : Int) (i : Int) = some r) ∧ (r = noAct ∨ ∃ y ∈ l, r = isAct y ∧ y.f1 = 1) := by
  induction d with
  | zero =>
    intro i hi
    refine ⟨noAct, fun k hk => ?_, .inl rfl⟩
    obtain ⟨k, rfl⟩ : ∃ q, k = q + 1 := ⟨k - 1, by omega⟩
    simp only [deployment_Active.l0]
    rw [if_neg (by omega)]
    rfl
  | succ d ih =>
    intro i hi
    obtain ⟨r, hr, hc⟩ := ih (i + 1) (by omega)
    have e : rd_T100 l (i : Int) = l[i] := by unfold rd_T100; simp [List.getD_eq_getElem?_getD, show i < l.length by omega]
    obtain ⟨q, hq⟩ := eff_ok l hl i (by omega)
    by_cases h1 : l[i].f1 = 1
    · by_cases h2 : l[i].f3.toList = name.toList
      · by_cases h3 : q.1 ≤ slot ∧ slot < q.2
        · refine ⟨isAct l[i], fun k hk => ?_, .inr ⟨l[i], List.getElem_mem _, rfl, h1⟩⟩
          obtain ⟨k, rfl⟩ : ∃ q, k = q + 1 := ⟨k - 1, by omega⟩
          simp only [deployment_Active.l0]
          rw [if_pos (by omega), if_pos (by omega), if_pos (by omega), e, if_pos h1, if_pos h2, hq k (by omega)]
          simp only [Option.bind_some, deployment_has.f]
          rw [if_pos h3.1]
          simp only [Option.bind_some]
          rw [if_pos (by simpa using h3.2)]
          rfl
        · refine ⟨r, fun k hk => ?_, hc⟩
          obtain ⟨k, rfl⟩ : ∃ q, k = q + 1 := ⟨k - 1, by omega⟩
          simp only [deployment_Active.l0]
          rw [if_pos (by omega), if_pos (by omega), if_pos (by omega), e, if_pos h1, if_pos h2, hq k (by omega)]
          simp only [Option.bind_some, deployment_has.f]
          by_cases h4 : q.1 ≤ slot
          · rw [if_pos h4]
            simp only [Option.bind_some]
            rw [if_neg (by simp; omega), w1 _ (by omega) (by omega)]
            exact hr k (by omega)
          · rw [if_neg h4]
            simp only [Option.bind_some]
            rw [if_neg (by simp), w1 _ (by omega) (by omega)]
            exact hr k (by omega)
      · refine ⟨r, fun k hk => ?_, hc⟩
        obtain ⟨k, rfl⟩ : ∃ q, k = q + 1 := ⟨k - 1, by omega⟩
        simp only [deployment_Active.l0]
        rw [if_pos (by omega), if_pos (by omega), if_pos (by omega), e, if_pos h1, if_neg h2, w1 _ (by omega) (by omega)]
        exact hr k (by omega)
    · refine ⟨r, fun k hk => ?_, hc⟩
      obtain ⟨k, rfl⟩ : ∃ q, k = q + 1 := ⟨k - 1, by omega⟩
      simp only [deployment_Active.l0]
      rw [if_pos (by omega), if_pos (by omega), if_pos (by omega), e, if_neg h1, w1 _ (by omega) (by omega)]
      exact hr k (by omega)
def actV (l : List S100) (name : ByteArray) (slot : Int) : Act := (deployment_Active.f 100 l name slot).getD noAct
theorem act_ok (l : List S100) (hl : l.length ≤ 40) (name : ByteArray) (slot : Int) : (∀ k, 100 ≤ k → deployment_Active.f k l name slot = some (actV l name slot)) ∧ (actV l name slot = noAct ∨ ∃ y ∈ l, actV l name slot = isAct y ∧ y.f1 = 1) := by
  obtain ⟨r, hr, hc⟩ := act_l0 l (by omega) name slot l.length 0 (by omega)
  have h : ∀ k, 100 ≤ k → deployment_Active.f k l name slot = some r := fun k hk => by
    unfold deployment_Active.f
    exact hr k (by omega)
  have e : actV l name slot = r := by unfold actV; rw [h 100 (by omega)]; rfl
  rw [e]
  exact ⟨h, hc⟩
end Go.Proofs.Ytdadnapfecmmdaa.P
namespace Go.Proofs.Ytdadnapfecmmdaa.P
open Go.RowKit Go.Proofs.YtdadnapfecmmdaaW.PrintWords Go.Proofs.YtdadnapfecmmdaaW.PrintLast Go.Proofs.YtdadnapfecmmdaaW.PrintMore
attribute [local go_sem] max2_int min2_int max_two min_two max_three min_three max_four min_four   -- for this text's walks alone
set_option linter.unusedVariables false
set_option linter.unusedSimpArgs false
def span_Slot.f (a0 : Int) : Option (Int) := some (a0 / 1048576)
set_option maxHeartbeats 8000000 in
set_option maxRecDepth 100000 in
theorem span_Slot.calls (a0 : Int) (r : Int) (w : World) (h : span_Slot.f a0 = some r) :
    Calls Try.prog 18 #[.int .i64 a0] w fun e w' => e = .returned (.int .i64 r) ∧ Drawn0 w w' := by
  have H : (some (a0 / 1048576)) = some r := h
  clear h
  obtain rfl := Option.some.inj H
  go_enter Try.func18, Try.ntmps18
  go_wp2
  go_ret
  exact ⟨by first | rfl | (simp; done) | (simp [*]; done), by repeat (first | exact Drawn0.refl _ | apply Drawn0.step)⟩
end Go.Proofs.Ytdadnapfecmmdaa.P
