/- Own texts of a proof about layer 55's simulate (merged): Hf, Hx, Hy, PF32, Hz. -/
import Derived.Test.YtdadnapfecmmdaaYm10
import Derived.Test.YtdadnapfecmmdaaYm2
import Derived.Test.YtdadnapfecmmdaaYm3
import Derived.Test.YtdadnapfecmmdaaYm9
import Derived.Laws.EntriesVeiled
import Derived.StillTailTactics
namespace Go.Proofs.Ytdadnapfecmmdaa.P
set_option linter.unusedVariables false
set_option linter.unusedSimpArgs false
open Go.RowKit Go.Proofs.YtdadnapfecmmdaaW.PrintWords Go.Proofs.YtdadnapfecmmdaaW.PrintLast Go.Proofs.YtdadnapfecmmdaaW.PrintMore
open Go.Proofs.Ytdadnapfecmmdaa.Hm
def NameOk (s : ByteArray) : Prop := ∀ k, 70 ≤ k → attribute_IsName.f k s = some true
theorem NameOk.of {s : ByteArray} (h : attribute_IsName.f 70 s = some true) : NameOk s := by
  obtain ⟨b, hb⟩ := isName_total s
  have h0 := hb 0
  rw [Nat.zero_add, h] at h0
  obtain rfl := Option.some.inj h0
  intro k hk
  have := hb (k - 70)
  rwa [show k - 70 + 70 = k from by omega] at this
theorem rd64 (l : List S64) (i : Nat) (h : i < l.length) : rd_T64 l (i : Int) = l[i] := by
  unfold rd_T64; simp [List.getD_eq_getElem?_getD, h]
theorem rd91 (l : List S91) (i : Nat) (h : i < l.length) : rd_T91 l (i : Int) = l[i] := by
  unfold rd_T91; simp [List.getD_eq_getElem?_getD, h]
theorem rd61 (l : List S61) (i : Nat) (h : i < l.length) : rd_T61 l (i : Int) = l[i] := by
  unfold rd_T61; simp [List.getD_eq_getElem?_getD, h]
section
variable (c : Cfg)
structure Valid : Prop where
  seed0 : 0 ≤ c.seed
  seed1 : c.seed ≤ 1048576
  n0 : 1 ≤ c.sv.length
  n1 : c.sv.length ≤ 16
  nf : c.fl.length ≤ 16
  sname : ∀ i (h : i < c.sv.length), NameOk c.sv[i].f0
  sidx : ∀ i (h : i < c.sv.length), (i : Int) ≤ svIdx c.sv c.sv[i].f0
  srange : ∀ i (h : i < c.sv.length), 1 ≤ c.sv[i].f1 ∧ c.sv[i].f1 ≤ 1048576 ∧ 0 ≤ c.sv[i].f2 ∧ c.sv[i].f2 ≤ 1048576 ∧ 0 ≤ c.sv[i].f3 ∧ c.sv[i].f3 ≤ 1048576 ∧ 0 ≤ c.sv[i].f4 ∧ c.sv[i].f4 ≤ 1000000
  slen : ∀ i (h : i < c.sv.length), c.sv[i].f5.length ≤ 8
  scall : ∀ i (h : i < c.sv.length), ∀ nm ∈ c.sv[i].f5, (i : Int) < svIdx c.sv nm
  off : ∀ i (h : i < c.off.length), 1 ≤ c.off[i].f0 ∧ c.off[i].f0 ≤ 1048576 ∧ -1048576 ≤ c.off[i].f1 ∧ c.off[i].f1 ≤ 1048576
  offn : c.off.length ≤ 1000
  offo : ∀ i (h : i + 1 < c.off.length), c.off[i].f0 < c.off[i + 1].f0
  gap : ∀ i (h : i < c.sv.length), (offOf c.off c.sv[i].f1).2 = true
  ch : depCheck c.ch = 0
  fsvc : ∀ i (h : i < c.fl.length), 0 ≤ svIdx c.sv c.fl[i].f0
  fver : ∀ i (h : i < c.fl.length), c.fl[i].f1.toList = [] ∨ NameOk c.fl[i].f1
  fwhen : ∀ i (h : i < c.fl.length), 0 ≤ c.fl[i].f2.f0 ∧ c.fl[i].f2.f0 < c.fl[i].f2.f1 ∧ c.fl[i].f2.f1 ≤ 1048577
  frange : ∀ i (h : i < c.fl.length), 0 ≤ c.fl[i].f3 ∧ c.fl[i].f3 ≤ 1048576 ∧ 0 ≤ c.fl[i].f4 ∧ c.fl[i].f4 ≤ 1000000
  t0 : 0 ≤ c.sfrom
  t1 : c.sfrom ≤ c.sto
  t2 : c.sto ≤ 1048576
  t3 : c.sto - c.sfrom ≤ 64
  per0 : 0 ≤ c.per
  per1 : c.per ≤ 16
  del0 : 0 ≤ c.delay
  del1 : c.delay ≤ 1048576
  chu0 : 1 ≤ c.chunk
  chu1 : c.chunk ≤ 64
  los0 : 0 ≤ c.loss
  los1 : c.loss ≤ 1000000
  rep0 : 0 ≤ c.rep
  rep1 : c.rep ≤ 1000000
  cnt : cntOf c.sv ≤ 256
end
theorem ckD_calls (c : Cfg) (p : CfgAt) (g : Nat) (w : World) (hR : CfgR w p c) (hg : w.heap[g]? = some (.cells (c.cells p) 31 (0, 0))) :
    Calls Try.prog 55 #[.pointer (some ⟨g, 0, none⟩)] w fun e w' => e = .returned (.int .i64 (depCheck c.ch)) ∧ Below w.heap.size w w' := by
  have q3 : w.cell? ⟨g, 3, none⟩ = some (.slice p.A3 c.ch.length p.c3) := (blk_cell hg 3).trans rfl
  have HC := Aside0.mk (depCheck_calls p.A3 p.c3 c.ch w hR.r3)
  clear hR hg
  generalize depCheck c.ch = r at HC
  go_enter Try.func55, Try.ntmps55
  go_wp2_with (go_at_call 50; refine HC.out.mono ?_; rintro e w1 ⟨rfl, hb1⟩)
  go_ret
  exact ⟨rfl, hb1⟩
theorem outside_calls (n a b : Int) (w : World) : Calls Try.prog 52 #[.int .i64 n, .int .i64 a, .int .i64 b] w fun e w' => e = .returned (.bool (decide (n < a ∨ b < n))) ∧ Drawn0 w w' := by
  refine simulate_outside.calls n a b _ w ?_
  unfold simulate_outside.f
  by_cases h : n < a
  · simp [h]
  · simp [h]
theorem cfg12 {c : Cfg} {p : CfgAt} {W : World} {g : Nat} (h : W.heap[g]? = some (.cells (c.cells p) 31 (0, 0))) : W.cell? ⟨g, 0, none⟩ = some (.int .i64 c.seed) ∧ W.cell? ⟨g, 1, none⟩ = some (.slice p.A1 c.sv.length p.c1) ∧ W.cell? ⟨g, 2, none⟩ = some (.slice p.A2 c.off.length p.c2) ∧ W.cell? ⟨g, 3, none⟩ = some (.slice p.A3 c.ch.length p.c3) ∧ W.cell? ⟨g, 4, none⟩ = some (.slice p.A4 c.fl.length p.c4) ∧ W.cell? ⟨g, 5, none⟩ = some (.int .i64 c.sfrom) ∧ W.cell? ⟨g, 6, none⟩ = some (.int .i64 c.sto) ∧ W.cell? ⟨g, 7, none⟩ = some (.int .i64 c.per) ∧ W.cell? ⟨g, 8, none⟩ = some (.int .i64 c.delay) ∧ W.cell? ⟨g, 9, none⟩ = some (.int .i64 c.chunk) ∧ W.cell? ⟨g, 10, none⟩ = some (.int .i64 c.loss) ∧ W.cell? ⟨g, 11, none⟩ = some (.int .i64 c.rep) :=
  ⟨(blk_cell h 0).trans rfl, (blk_cell h 1).trans rfl, (blk_cell h 2).trans rfl, (blk_cell h 3).trans rfl, (blk_cell h 4).trans rfl, (blk_cell h 5).trans rfl, (blk_cell h 6).trans rfl, (blk_cell h 7).trans rfl, (blk_cell h 8).trans rfl, (blk_cell h 9).trans rfl, (blk_cell h 10).trans rfl, (blk_cell h 11).trans rfl⟩
theorem outside_no (n a b : Int) (w : World) (h0 : a ≤ n) (h1 : n ≤ b) : Calls Try.prog 52 #[.int .i64 n, .int .i64 a, .int .i64 b] w fun e w' => e = .returned (.bool false) ∧ Below w.heap.size w w' := by
  refine (outside_calls n a b w).mono ?_
  rintro e w' ⟨rfl, nd, rfl⟩
  exact ⟨by rw [show decide (n < a ∨ b < n) = false from by simp; omega], pw_below_drewN (Below.refl _ _) nd⟩
set_option maxHeartbeats 2000000 in
set_option maxRecDepth 100000 in
theorem ckR_walk (c : Cfg) (p : CfgAt) (w : World) (hR : CfgR w p c) (hv : Valid c) : Calls Try.prog 57 #[c.val p] w fun e w' => e = .returned (.int .i64 0) ∧ Below w.heap.size w w' := by
  obtain ⟨A1, c1, A2, c2, A3, c3, A4, c4⟩ := p
  have HR := Aside0.mk hR
  have HN := Aside0.mk hv.n0
  have hcnt := hv.cnt
  have a0 := hv.t0
  have a1 := hv.t1
  have a2 := hv.t2
  have a3 := hv.t3
  have a4 : IntKind.i64.wrap (c.sto - c.sfrom) = c.sto - c.sfrom := IntWalk.i64_in _ (by omega)
  have H1 := Aside0.mk (fun W => outside_no c.per 0 16 W hv.per0 hv.per1)
  have H2 := Aside0.mk (fun W => outside_no c.delay 0 1048576 W hv.del0 hv.del1)
  have H3 := Aside0.mk (fun W => outside_no c.chunk 1 64 W hv.chu0 hv.chu1)
  have H4 := Aside0.mk (fun W => outside_no c.loss 0 1000000 W hv.los0 hv.los1)
  have H5 := Aside0.mk (fun W => outside_no c.rep 0 1000000 W hv.rep0 hv.rep1)
  clear hR hv
  go_enter Try.func57, Try.ntmps57
  have hb := below_alloc (Below.refl w.heap.size w) (.cells (c.cells ⟨A1, c1, A2, c2, A3, c3, A4, c4⟩) 31)
  have hx := blk_new w (.cells (c.cells ⟨A1, c1, A2, c2, A3, c3, A4, c4⟩) 31)
  go_wp2_with fail
  generalize w.alloc (.cells (c.cells ⟨A1, c1, A2, c2, A3, c3, A4, c4⟩) 31) = v0 at hx hb ⊢
  refine (H1.out _).mono ?_
  rintro e v1 ⟨rfl, hb1⟩
  replace hx := blk_below hx hb1
  replace hb := below_step hb hb1
  clear hb1
  have q8 : v1.cell? ⟨w.heap.size, 8, none⟩ = some (.int .i64 c.delay) := (blk_cell hx 8).trans rfl
  go_wp2_with fail
  refine (H2.out _).mono ?_
  rintro e v2 ⟨rfl, hb1⟩
  replace hx := blk_below hx hb1
  replace hb := below_step hb hb1
  clear hb1
  have q9 : v2.cell? ⟨w.heap.size, 9, none⟩ = some (.int .i64 c.chunk) := (blk_cell hx 9).trans rfl
  go_wp2_with fail
  refine (H3.out _).mono ?_
  rintro e v3 ⟨rfl, hb1⟩
  replace hx := blk_below hx hb1
  replace hb := below_step hb hb1
  clear hb1
  have q10 : v3.cell? ⟨w.heap.size, 10, none⟩ = some (.int .i64 c.loss) := (blk_cell hx 10).trans rfl
  go_wp2_with fail
  refine (H4.out _).mono ?_
  rintro e v4 ⟨rfl, hb1⟩
  replace hx := blk_below hx hb1
  replace hb := below_step hb hb1
  clear hb1
  have q11 : v4.cell? ⟨w.heap.size, 11, none⟩ = some (.int .i64 c.rep) := (blk_cell hx 11).trans rfl
  go_wp2_with fail
  refine (H5.out _).mono ?_
  rintro e v5 ⟨rfl, hb1⟩
  replace hx := blk_below hx hb1
  replace hb := below_step hb hb1
  clear hb1
  have q0 : v5.cell? ⟨w.heap.size, 0, none⟩ = some (.int .i64 c.seed) := (blk_cell hx 0).trans rfl
  have q1 : v5.cell? ⟨w.heap.size, 1, none⟩ = some (.slice A1 c.sv.length c1) := (blk_cell hx 1).trans rfl
  have q2 : v5.cell? ⟨w.heap.size, 2, none⟩ = some (.slice A2 c.off.length c2) := (blk_cell hx 2).trans rfl
  have q3 : v5.cell? ⟨w.heap.size, 3, none⟩ = some (.slice A3 c.ch.length c3) := (blk_cell hx 3).trans rfl
  have q4 : v5.cell? ⟨w.heap.size, 4, none⟩ = some (.slice A4 c.fl.length c4) := (blk_cell hx 4).trans rfl
  have q5 : v5.cell? ⟨w.heap.size, 5, none⟩ = some (.int .i64 c.sfrom) := (blk_cell hx 5).trans rfl
  have q6 : v5.cell? ⟨w.heap.size, 6, none⟩ = some (.int .i64 c.sto) := (blk_cell hx 6).trans rfl
  have q7 : v5.cell? ⟨w.heap.size, 7, none⟩ = some (.int .i64 c.per) := (blk_cell hx 7).trans rfl
  have q8 : v5.cell? ⟨w.heap.size, 8, none⟩ = some (.int .i64 c.delay) := (blk_cell hx 8).trans rfl
  have q9 : v5.cell? ⟨w.heap.size, 9, none⟩ = some (.int .i64 c.chunk) := (blk_cell hx 9).trans rfl
  have q10 : v5.cell? ⟨w.heap.size, 10, none⟩ = some (.int .i64 c.loss) := (blk_cell hx 10).trans rfl
  have q11 : v5.cell? ⟨w.heap.size, 11, none⟩ = some (.int .i64 c.rep) := (blk_cell hx 11).trans rfl
  go_wp2_with fail
  refine (count_calls c ⟨A1, c1, A2, c2, A3, c3, A4, c4⟩ _ (HR.out.below hb) HN.out).mono ?_
  rintro e v6 ⟨rfl, hb1⟩
  go_wp2_with fail
  go_ret
  exact ⟨by rfl, below_step hb hb1⟩
theorem name_calls (s : ByteArray) (h : NameOk s) (w : World) : Calls Try.prog 51 #[.string s] w fun e w' => e = .returned (.bool true) ∧ Below w.heap.size w w' := by
  refine (attribute_IsName.calls 70 s true w (h 70 (Nat.le_refl _))).mono ?_
  rintro e w' ⟨rfl, hb⟩
  first | exact ⟨rfl, hb⟩ | (obtain ⟨nd, rfl⟩ := hb; exact ⟨rfl, pw_below_drewN (Below.refl _ _) nd⟩)
set_option maxHeartbeats 2000000 in
set_option maxRecDepth 100000 in
theorem ckF_walk (c : Cfg) (p : CfgAt) (w : World) (hR : CfgR w p c) (hv : Valid c) : Calls Try.prog 56 #[c.val p] w fun e w' => e = .returned (.int .i64 0) ∧ Below w.heap.size w w' := by
  obtain ⟨A1, c1, A2, c2, A3, c3, A4, c4⟩ := p
  have HR := Aside0.mk hR
  have HV := Aside0.mk hv
  have hn := hv.nf
  have HX0 := Aside0.mk (blk_new w (.cells (c.cells ⟨A1, c1, A2, c2, A3, c3, A4, c4⟩) 31))
  have HB0 := Aside0.mk (below_alloc (Below.refl w.heap.size w) (.cells (c.cells ⟨A1, c1, A2, c2, A3, c3, A4, c4⟩) 31))
  clear hR hv
  go_enter Try.func56, Try.ntmps56
  go_wp2_with fail
  go_loopg [4, 8] c.fl.length (fun gg s4 s8 wr => ∃ i : Nat, i ≤ c.fl.length ∧ c.fl.length - i ≤ gg ∧ s8 = .int .i64 (i : Int) ∧ Aside0 (wr.heap[w.heap.size]? = some (.cells (c.cells ⟨A1, c1, A2, c2, A3, c3, A4, c4⟩) 31 (0, 0))) ∧ Aside0 (Below w.heap.size w wr))
  case atStart => exact ⟨0, Nat.zero_le _, by omega, rfl, HX0, HB0⟩
  case round =>
  obtain ⟨i, hi, hgi, rfl, HX, HB⟩ := hrel
  by_cases hlt : i < c.fl.length
  · have hs := HV.out.fsvc i hlt
    have hvr := HV.out.fver i hlt
    obtain ⟨w0, w1', w2⟩ := HV.out.fwhen i hlt
    obtain ⟨r0, r1, r2, r3⟩ := HV.out.frange i hlt
    obtain ⟨ad, e, t0, t1, t2, t3, t4, t5⟩ := at_T61 HR.out.r4 (i : Int) (by omega) (by omega)
    dsimp only at e
    subst e
    simp only [Int.toNat_natCast] at t0 t1 t2 t3 t4 t5
    rw [rd61 c.fl i hlt] at t0 t1 t2 t3 t4 t5
    generalize c.fl[i] = x at hs hvr w0 w1' w2 r0 r1 r2 r3 t0 t1 t2 t3 t4 t5
    replace t0 := (HB.out.cell (World.block_lt_of_cell? _ _ t0)).trans t0
    replace t1 := (HB.out.cell (World.block_lt_of_cell? _ _ t1)).trans t1
    replace t2 := (HB.out.cell (World.block_lt_of_cell? _ _ t2)).trans t2
    replace t3 := (HB.out.cell (World.block_lt_of_cell? _ _ t3)).trans t3
    replace t4 := (HB.out.cell (World.block_lt_of_cell? _ _ t4)).trans t4
    replace t5 := (HB.out.cell (World.block_lt_of_cell? _ _ t5)).trans t5
    have hz1 : (i : Int) < (c.fl.length : Int) := by omega
    go_upto_region 4 with fail
    have HX1 := Aside0.mk (blk_alloc HX.out (.cells #[.string x.f0, .string x.f1, .int .i64 x.f2.f0, .int .i64 x.f2.f1, .int .i64 x.f3, .int .i64 x.f4] 61))
    have HY1 := Aside0.mk (blk_new wr (.cells #[.string x.f0, .string x.f1, .int .i64 x.f2.f0, .int .i64 x.f2.f1, .int .i64 x.f3, .int .i64 x.f4] 61))
    have HB1 := Aside0.mk (below_alloc HB.out (.cells #[.string x.f0, .string x.f1, .int .i64 x.f2.f0, .int .i64 x.f2.f1, .int .i64 x.f3, .int .i64 x.f4] 61))
    clear t0 t1 t2 t3 t4 t5
    generalize hgb : wr.heap.size = gb at HY1 ⊢
    generalize wr.alloc (.cells #[.string x.f0, .string x.f1, .int .i64 x.f2.f0, .int .i64 x.f2.f1, .int .i64 x.f3, .int .i64 x.f4] 61) = v0 at HX1 HY1 HB1 ⊢
    have q0 : v0.cell? ⟨w.heap.size, 0, none⟩ = some (.int .i64 c.seed) := (blk_cell HX1.out 0).trans rfl
    have q1 : v0.cell? ⟨w.heap.size, 1, none⟩ = some (.slice A1 c.sv.length c1) := (blk_cell HX1.out 1).trans rfl
    have q2 : v0.cell? ⟨w.heap.size, 2, none⟩ = some (.slice A2 c.off.length c2) := (blk_cell HX1.out 2).trans rfl
    have q3 : v0.cell? ⟨w.heap.size, 3, none⟩ = some (.slice A3 c.ch.length c3) := (blk_cell HX1.out 3).trans rfl
    have q4 : v0.cell? ⟨w.heap.size, 4, none⟩ = some (.slice (some ad) c.fl.length c4) := (blk_cell HX1.out 4).trans rfl
    have q5 : v0.cell? ⟨w.heap.size, 5, none⟩ = some (.int .i64 c.sfrom) := (blk_cell HX1.out 5).trans rfl
    have q6 : v0.cell? ⟨w.heap.size, 6, none⟩ = some (.int .i64 c.sto) := (blk_cell HX1.out 6).trans rfl
    have q7 : v0.cell? ⟨w.heap.size, 7, none⟩ = some (.int .i64 c.per) := (blk_cell HX1.out 7).trans rfl
    have q8 : v0.cell? ⟨w.heap.size, 8, none⟩ = some (.int .i64 c.delay) := (blk_cell HX1.out 8).trans rfl
    have q9 : v0.cell? ⟨w.heap.size, 9, none⟩ = some (.int .i64 c.chunk) := (blk_cell HX1.out 9).trans rfl
    have q10 : v0.cell? ⟨w.heap.size, 10, none⟩ = some (.int .i64 c.loss) := (blk_cell HX1.out 10).trans rfl
    have q11 : v0.cell? ⟨w.heap.size, 11, none⟩ = some (.int .i64 c.rep) := (blk_cell HX1.out 11).trans rfl
    have y0 : v0.cell? ⟨gb, 0, none⟩ = some (.string x.f0) := (blk_cell HY1.out 0).trans rfl
    go_wp2_with fail
    refine (index_calls c ⟨A1, c1, A2, c2, A3, c3, (some ad), c4⟩ x.f0 _ (HR.out.below HB1.out)).mono ?_
    rintro e v1 ⟨rfl, hb1⟩
    have hx := blk_below HX1.out hb1
    have hy := blk_below HY1.out hb1
    have hb := below_step HB1.out hb1
    clear hb1 HX1 HY1 HB1 y0 q0 q1 q2 q3 q4 q5 q6 q7 q8 q9 q10 q11
    have y1 : v1.cell? ⟨gb, 1, none⟩ = some (.string x.f1) := (blk_cell hy 1).trans rfl
    have z1 : (svIdx c.sv x.f0 < 0) = False := eq_false (by omega)
    have z2 : decide (svIdx c.sv x.f0 < 0) = false := by simp; omega
    generalize svIdx c.sv x.f0 = si at z1 z2 ⊢
    go_upto_region 6 with fail
    have HX := Aside0.mk hx
    have HY := Aside0.mk hy
    have HB := Aside0.mk hb
    clear hx hy hb
    go_cut [18] (fun s18 wz => s18 = .bool false ∧ Aside0 (wz.heap[w.heap.size]? = some (.cells (c.cells ⟨A1, c1, A2, c2, A3, c3, (some ad), c4⟩) 31 (0, 0))) ∧ Aside0 (wz.heap[gb]? = some (.cells #[.string x.f0, .string x.f1, .int .i64 x.f2.f0, .int .i64 x.f2.f1, .int .i64 x.f3, .int .i64 x.f4] 61 (0, 0))) ∧ Aside0 (Below w.heap.size w wz))
    case first =>
      by_cases hE : x.f1.toList = []
      · have e1 : x.f1.toList.isEmpty = true := by rw [hE]; rfl
        go_wp2_with fail
        go_meet
        exact ⟨rfl, HX, HY, HB⟩
      · have e1 : x.f1.toList.isEmpty = false := by simpa using hE
        have hnm := Aside0.mk (hvr.resolve_left hE)
        clear hE hvr
        go_wp2_with fail
        refine (name_calls x.f1 hnm.out _).mono ?_
        rintro e v2 ⟨rfl, hb1⟩
        go_wp2_with fail
        go_meet
        exact ⟨rfl, ⟨blk_below HX.out hb1⟩, ⟨blk_below HY.out hb1⟩, ⟨below_step HB.out hb1⟩⟩
    case rest =>
      clear HX HY HB y1 z1 z2
      obtain ⟨rfl, HX, HY, HB⟩ := hcut
      have y2 : wc.cell? ⟨gb, 2, none⟩ = some (.int .i64 x.f2.f0) := (blk_cell HY.out 2).trans rfl
      have y3 : wc.cell? ⟨gb, 3, none⟩ = some (.int .i64 x.f2.f1) := (blk_cell HY.out 3).trans rfl
      have y4 : wc.cell? ⟨gb, 4, none⟩ = some (.int .i64 x.f3) := (blk_cell HY.out 4).trans rfl
      have H4 := Aside0.mk (fun W => outside_no x.f3 0 1048576 W r0 r1)
      have H5 := Aside0.mk (fun W => outside_no x.f4 0 1000000 W r2 r3)
      clear hs hvr r0 r1 r2 r3
      go_wp2_with fail
      refine (H4.out _).mono ?_
      rintro e v2 ⟨rfl, hb2⟩
      have hy := blk_below HY.out hb2
      have HX2 := Aside0.mk (blk_below HX.out hb2)
      have HB2 := Aside0.mk (below_step HB.out hb2)
      have y5 : v2.cell? ⟨gb, 5, none⟩ = some (.int .i64 x.f4) := (blk_cell hy 5).trans rfl
      clear hy hb2 y2 y3 y4 HX HY HB
      go_wp2_with fail
      refine (H5.out _).mono ?_
      rintro e v3 ⟨rfl, hb3⟩
      have HX3 := Aside0.mk (blk_below HX2.out hb3)
      have HB3 := Aside0.mk (below_step HB2.out hb3)
      clear hb3 y5 HX2 HB2
      go_wp2_with fail
      go_roundg (c.fl.length - (i + 1))
      case measure => omega
      case rel => exact ⟨i + 1, by omega, by omega, by first | rfl | go_num, HX3, HB3⟩
  · have hz1 : decide (i < c.fl.length) = false := by simp; omega
    have hz2 : decide ((i : Int) < (c.fl.length : Int)) = false := by simp; omega
    clear hlt
    go_wp2
    go_ret
    exact ⟨rfl, HB.out⟩
def ckoT.T6 : Bool × List (List Nat × List Nat) := (true, [([], []), ([0], [0]), ([1], [1]), ([2], [2]), ([3, 2], [2, 3]), ([2], [2]), ([5, 2], [2, 5]), ([2], [2]), ([7, 2], [2, 7]), ([6, 8, 2], [2, 6, 8]), ([9, 2], [2, 9]), ([10, 2], [2, 10]), ([4, 11, 2], [2, 4, 11]), ([2, 12], [2, 12]), ([13, 2], [13])])
def ckoT.B6 : List Nat := [0, 1, 3, 7, 15, 7, 39, 7, 135, 487, 999, 2023, 4095, 8191, 16383]
theorem ckoT.tab6 : rtab .any (opsOf Try.f54 6) = ckoT.T6 := by kernel_rfl
theorem ckoT.bits6 : waitsOk ckoT.T6.2 ckoT.B6 = true := by kernel_rfl
set_option maxHeartbeats 2000000 in
set_option maxRecDepth 100000 in
theorem ckO_walk (c : Cfg) (p : CfgAt) (w : World) (hR : CfgR w p c) (hv : Valid c) : Calls Try.prog 54 #[c.val p] w fun e w' => e = .returned (.int .i64 0) ∧ Below w.heap.size w w' := by
  obtain ⟨A1, c1, A2, c2, A3, c3, A4, c4⟩ := p
  have HR := Aside0.mk hR
  have HV := Aside0.mk hv
  have hn := hv.offn
  have hn1 := hv.n1
  have HX0 := Aside0.mk (blk_new w (.cells (c.cells ⟨A1, c1, A2, c2, A3, c3, A4, c4⟩) 31))
  have HB0 := Aside0.mk (below_alloc (Below.refl w.heap.size w) (.cells (c.cells ⟨A1, c1, A2, c2, A3, c3, A4, c4⟩) 31))
  clear hR hv
  go_enter Try.func54, Try.ntmps54
  go_wp2_with fail
  go_loopg [3, 4, 12] c.off.length (fun gg s3 s4 s12 wr => ∃ i : Nat, i ≤ c.off.length ∧ c.off.length - i ≤ gg ∧ s12 = .int .i64 (i : Int) ∧ Aside0 (wr.heap[w.heap.size]? = some (.cells (c.cells ⟨A1, c1, A2, c2, A3, c3, A4, c4⟩) 31 (0, 0))) ∧ Aside0 (Below w.heap.size w wr))
  case atStart => exact ⟨0, Nat.zero_le _, by omega, rfl, HX0, HB0⟩
  case round =>
  obtain ⟨i, hi, hgi, rfl, HX, HB⟩ := hrel
  by_cases hlt : i < c.off.length
  · obtain ⟨r0, r1, r2, r3⟩ := HV.out.off i hlt
    have ho : 0 < i → c.off[i - 1].f0 < c.off[i].f0 := fun h => by
      have := HV.out.offo (i - 1) (by omega)
      simpa only [show i - 1 + 1 = i from by omega] using this
    obtain ⟨ad, e, t0, t1⟩ := at_T91 HR.out.r2 (i : Int) (by omega) (by omega)
    obtain ⟨ad2, e2, u0, -⟩ := at_T91 HR.out.r2 ((i - 1 : Nat) : Int) (by omega) (by omega)
    dsimp only at e e2
    subst e
    obtain rfl : ad = ad2 := by injection e2
    clear e2
    simp only [Int.toNat_natCast] at t0 t1 u0
    rw [rd91 c.off i hlt] at t0 t1
    rw [rd91 c.off (i - 1) (by omega)] at u0
    generalize c.off[i] = x at r0 r1 r2 r3 t0 t1 ho
    generalize c.off[i - 1].f0 = y at u0 ho
    replace t0 := (HB.out.cell (World.block_lt_of_cell? _ _ t0)).trans t0
    replace t1 := (HB.out.cell (World.block_lt_of_cell? _ _ t1)).trans t1
    replace u0 := (HB.out.cell (World.block_lt_of_cell? _ _ u0)).trans u0
    have hz1 : (i : Int) < (c.off.length : Int) := by omega
    have H1 := Aside0.mk (fun W => outside_no x.f0 1 1048576 W r0 r1)
    have H2 := Aside0.mk (fun W => outside_no x.f1 (-1048576) 1048576 W r2 r3)
    clear r0 r1 r2 r3
    go_upto_region 4 with fail
    have HX1 := Aside0.mk (blk_alloc HX.out (.cells #[.int .i64 x.f0, .int .i64 x.f1] 91))
    have HY1 := Aside0.mk (blk_new wr (.cells #[.int .i64 x.f0, .int .i64 x.f1] 91))
    have HB1 := Aside0.mk (below_alloc HB.out (.cells #[.int .i64 x.f0, .int .i64 x.f1] 91))
    have hb0 : Below wr.heap.size wr (wr.alloc (.cells #[.int .i64 x.f0, .int .i64 x.f1] 91)) := below_alloc (Below.refl _ _) _
    replace u0 := (hb0.cell (World.block_lt_of_cell? _ _ u0)).trans u0
    clear t0 t1 hb0
    generalize hgb : wr.heap.size = gb at HY1 ⊢
    generalize wr.alloc (.cells #[.int .i64 x.f0, .int .i64 x.f1] 91) = v0 at HX1 HY1 HB1 u0 ⊢
    have y0 : v0.cell? ⟨gb, 0, none⟩ = some (.int .i64 x.f0) := (blk_cell HY1.out 0).trans rfl
    go_wp2_with fail
    refine (H1.out _).mono ?_
    rintro e v1 ⟨rfl, hb1⟩
    have HX2 := Aside0.mk (blk_below HX1.out hb1)
    have HY2 := Aside0.mk (blk_below HY1.out hb1)
    have HB2 := Aside0.mk (below_step HB1.out hb1)
    replace u0 := (hb1.cell (World.block_lt_of_cell? _ _ u0)).trans u0
    have y1 : v1.cell? ⟨gb, 1, none⟩ = some (.int .i64 x.f1) := (blk_cell HY2.out 1).trans rfl
    clear hb1 y0 HX1 HY1 HB1
    go_wp2_with fail
    refine (H2.out _).mono ?_
    rintro e v2 ⟨rfl, hb1⟩
    have HX3 := Aside0.mk (blk_below HX2.out hb1)
    have HY3 := Aside0.mk (blk_below HY2.out hb1)
    have HB3 := Aside0.mk (below_step HB2.out hb1)
    replace u0 := (hb1.cell (World.block_lt_of_cell? _ _ u0)).trans u0
    have y0 : v2.cell? ⟨gb, 0, none⟩ = some (.int .i64 x.f0) := (blk_cell HY3.out 0).trans rfl
    have y2 : v2.cell? ⟨w.heap.size, 2, none⟩ = some (.slice (some ad) c.off.length c2) := (blk_cell HX3.out 2).trans rfl
    clear hb1 y1 HX2 HY2 HB2
    go_upto_region 6 with fail
    by_cases hi0 : 0 < i
    · have hy := ho hi0
      have k1 : IntKind.i64.wrap ((i : Int) - 1) = ((i - 1 : Nat) : Int) := by rw [IntWalk.i64_in _ (by omega)]; omega
      have k2 : decide ((0 : Int) < (i : Int)) = true := by simp; omega
      have k3 : decide (x.f0 ≤ y) = false := by simp; omega
      have k4 : ((i - 1 : Nat) : Int) < (c.off.length : Int) := by omega
      have k5 : (0 : Int) ≤ ((i - 1 : Nat) : Int) := by omega
      refine start_ (n := 15) (S := fun w' => Below v2.heap.size v2 w') (ds := []) #[false, false, false, false, false, false, false, false, false, false, false, false, false, false, false] (by kernel_rfl) rfl rfl (Below.refl _ _).drew (fun hHeld => ?_)
      refine with_tabW ckoT.tab6 ckoT.bits6 (fun HT_ HW_ => ?_)
      generalize v2.drew = wd at hHeld ⊢
      refine pu_ 0 (some 27) (bq 15 1) HT_ rfl rfl ?_
      refine pu_ 1 (some 28) (bq 15 3) HT_ rfl rfl ?_
      refine pu_ 2 (some 29) (bq 15 7) HT_ rfl rfl ?_
      refine pu_ 3 (some 30) (bq 15 15) HT_ rfl rfl ?_
      refine tk_ 4 (some 31) (bq 15 31) HT_ HW_ rfl rfl hHeld ?_ (by intro w' hS; replace y0 := below_at hS y0; go_simp; with_reducible rfl)
      refine pu_ 5 (some 32) (bq 15 63) HT_ rfl rfl ?_
      refine tk_ 6 (some 33) (bq 15 127) HT_ HW_ rfl rfl hHeld ?_ (by intro w' hS; replace y2 := below_at hS y2; go_simp; with_reducible rfl)
      refine pu_ 7 (some 34) (bq 15 255) HT_ rfl rfl ?_
      refine pu_ 8 (some 35) (bq 15 511) HT_ rfl rfl ?_
      refine pu_ 9 (some 36) (bq 15 1023) HT_ rfl rfl ?_
      refine pu_ 10 (some 37) (bq 15 2047) HT_ rfl rfl ?_
      refine tk_ 11 (some 38) (bq 15 4095) HT_ HW_ rfl rfl hHeld ?_ (by intro w' hS; replace u0 := below_at hS u0; go_simp; with_reducible rfl)
      refine pu_ 12 (some 39) (bq 15 8191) HT_ rfl rfl ?_
      refine pu_ 13 (some 40) (bq 15 16383) HT_ rfl rfl ?_
      refine pu_ 14 (some 26) (bq 15 32767) HT_ rfl rfl ?_
      refine done_ (done_of HT_.out (by kernel_rfl)) ?_
      have HX4 := Aside0.mk (blk_below HX3.out hHeld)
      have HB4 := Aside0.mk (below_step HB3.out hHeld)
      clear hHeld u0 y0 y2 HX3 HY3 HB3
      go_wp2_with fail
      go_roundg (c.off.length - (i + 1))
      case measure => omega
      case rel => exact ⟨i + 1, by omega, by omega, by first | rfl | go_num, HX4, HB4⟩
    · have k2 : decide ((0 : Int) < (i : Int)) = false := by simp; omega
      refine start_ (n := 15) (S := fun w' => Below v2.heap.size v2 w') (ds := []) #[false, false, false, false, false, false, false, false, false, false, false, false, false, false, false] (by kernel_rfl) rfl rfl (Below.refl _ _).drew (fun hHeld => ?_)
      refine with_tabW ckoT.tab6 ckoT.bits6 (fun HT_ HW_ => ?_)
      generalize v2.drew = wd at hHeld ⊢
      refine pu_ 0 (some 27) (bq 15 1) HT_ rfl rfl ?_
      refine pu_ 1 (some 28) (bq 15 3) HT_ rfl rfl ?_
      refine pu_ 2 (some 29) (bq 15 7) HT_ rfl rfl ?_
      refine po_ 3 (some 30) (bq 15 15) HT_ rfl rfl ?_
      refine to_ 4 (some 31) (bq 15 31) HT_ HW_ rfl rfl hHeld ?_
      refine po_ 5 (some 32) (bq 15 63) HT_ rfl rfl ?_
      refine to_ 6 (some 33) (bq 15 127) HT_ HW_ rfl rfl hHeld ?_
      refine po_ 7 (some 34) (bq 15 255) HT_ rfl rfl ?_
      refine po_ 8 (some 35) (bq 15 511) HT_ rfl rfl ?_
      refine po_ 9 (some 36) (bq 15 1023) HT_ rfl rfl ?_
      refine po_ 10 (some 37) (bq 15 2047) HT_ rfl rfl ?_
      refine to_ 11 (some 38) (bq 15 4095) HT_ HW_ rfl rfl hHeld ?_
      refine po_ 12 (some 39) (bq 15 8191) HT_ rfl rfl ?_
      refine pu_ 13 (some 40) (bq 15 16383) HT_ rfl rfl ?_
      refine pu_ 14 (some 26) (bq 15 32767) HT_ rfl rfl ?_
      refine done_ (done_of HT_.out (by kernel_rfl)) ?_
      have HX4 := Aside0.mk (blk_below HX3.out hHeld)
      have HB4 := Aside0.mk (below_step HB3.out hHeld)
      clear hHeld u0 y0 y2 HX3 HY3 HB3
      go_wp2_with fail
      go_roundg (c.off.length - (i + 1))
      case measure => omega
      case rel => exact ⟨i + 1, by omega, by omega, by first | rfl | go_num, HX4, HB4⟩
  · have hz1 : decide (i < c.off.length) = false := by simp; omega
    have hz2 : decide ((i : Int) < (c.off.length : Int)) = false := by simp; omega
    clear hlt
    have hn1 := HV.out.n1
    have y1 : wr.cell? ⟨w.heap.size, 1, none⟩ = some (.slice A1 c.sv.length c1) := (blk_cell HX.out 1).trans rfl
    clear hi hgi
    go_wp2_with fail
    clear y1
    go_loopg [6, 7, 8, 45] c.sv.length (fun gg s6 s7 s8 s45 wr => ∃ i : Nat, i ≤ c.sv.length ∧ c.sv.length - i ≤ gg ∧ s45 = .int .i64 (i : Int) ∧ Aside0 (wr.heap[w.heap.size]? = some (.cells (c.cells ⟨A1, c1, A2, c2, A3, c3, A4, c4⟩) 31 (0, 0))) ∧ Aside0 (Below w.heap.size w wr))
    case atStart => exact ⟨0, Nat.zero_le _, by omega, rfl, HX, HB⟩
    case round =>
    clear HX HB
    obtain ⟨i, hi, hgi, rfl, HX, HB⟩ := hrel
    by_cases hlt : i < c.sv.length
    · have hgap := HV.out.gap i hlt
      obtain ⟨ad, A5, c5, e, t0, t1, t2, t3, t4, t5, l5, k5⟩ := at_T64 HR.out.r1 (i : Int) (by omega) (by omega)
      dsimp only at e
      subst e
      simp only [Int.toNat_natCast] at t0 t1 t2 t3 t4 t5
      rw [rd64 c.sv i hlt] at t0 t1 t2 t3 t4 t5 l5 k5
      replace t0 := (HB.out.cell (World.block_lt_of_cell? _ _ t0)).trans t0
      replace t1 := (HB.out.cell (World.block_lt_of_cell? _ _ t1)).trans t1
      replace t2 := (HB.out.cell (World.block_lt_of_cell? _ _ t2)).trans t2
      replace t3 := (HB.out.cell (World.block_lt_of_cell? _ _ t3)).trans t3
      replace t4 := (HB.out.cell (World.block_lt_of_cell? _ _ t4)).trans t4
      replace t5 := (HB.out.cell (World.block_lt_of_cell? _ _ t5)).trans t5
      generalize c.sv[i] = x at hgap t0 t1 t2 t3 t4 t5
      have hz1 : (i : Int) < (c.sv.length : Int) := by omega
      clear l5 k5
      go_upto_region 12 with fail
      have HX1 := Aside0.mk (blk_alloc HX.out (.cells #[.string x.f0, .int .i64 x.f1, .int .i64 x.f2, .int .i64 x.f3, .int .i64 x.f4, .slice A5 x.f5.length c5] 64))
      have HY1 := Aside0.mk (blk_new wr (.cells #[.string x.f0, .int .i64 x.f1, .int .i64 x.f2, .int .i64 x.f3, .int .i64 x.f4, .slice A5 x.f5.length c5] 64))
      have HB1 := Aside0.mk (below_alloc HB.out (.cells #[.string x.f0, .int .i64 x.f1, .int .i64 x.f2, .int .i64 x.f3, .int .i64 x.f4, .slice A5 x.f5.length c5] 64))
      clear t0 t1 t2 t3 t4 t5
      generalize hgb : wr.heap.size = gb at HY1 ⊢
      generalize wr.alloc (.cells #[.string x.f0, .int .i64 x.f1, .int .i64 x.f2, .int .i64 x.f3, .int .i64 x.f4, .slice A5 x.f5.length c5] 64) = v0 at HX1 HY1 HB1 ⊢
      obtain ⟨q0, q1, q2, q3, q4, q5, q6, q7, q8, q9, q10, q11⟩ := cfg12 HX1.out
      have y1 : v0.cell? ⟨gb, 1, none⟩ = some (.int .i64 x.f1) := (blk_cell HY1.out 1).trans rfl
      clear HY1
      go_wp2_with fail
      refine (offset_calls c ⟨(some ad), c1, A2, c2, A3, c3, A4, c4⟩ x.f1 _ (HR.out.below HB1.out)).mono ?_
      rintro e v1 ⟨rfl, hb1⟩
      have HX2 := Aside0.mk (blk_below HX1.out hb1)
      have HB2 := Aside0.mk (below_step HB1.out hb1)
      rw [hgap]
      clear hb1 HX1 HB1 y1 q0 q1 q2 q3 q4 q5 q6 q7 q8 q9 q10 q11
      go_wp2_with fail
      go_roundg (c.sv.length - (i + 1))
      case measure => omega
      case rel => exact ⟨i + 1, by omega, by omega, by first | rfl | go_num, HX2, HB2⟩
    · have hz1 : decide (i < c.sv.length) = false := by simp; omega
      have hz2 : decide ((i : Int) < (c.sv.length : Int)) = false := by simp; omega
      clear hlt
      go_wp2
      go_ret
      exact ⟨rfl, HB.out⟩
set_option maxHeartbeats 2000000 in
set_option maxRecDepth 100000 in
theorem ckS_walk (c : Cfg) (p : CfgAt) (w : World) (hR : CfgR w p c) (hv : Valid c) : Calls Try.prog 53 #[c.val p] w fun e w' => e = .returned (.int .i64 0) ∧ Below w.heap.size w w' := by
  obtain ⟨A1, c1, A2, c2, A3, c3, A4, c4⟩ := p
  have HR := Aside0.mk hR
  have HV := Aside0.mk hv
  have hn1 := hv.n1
  have HX0 := Aside0.mk (blk_new w (.cells (c.cells ⟨A1, c1, A2, c2, A3, c3, A4, c4⟩) 31))
  have HB0 := Aside0.mk (below_alloc (Below.refl w.heap.size w) (.cells (c.cells ⟨A1, c1, A2, c2, A3, c3, A4, c4⟩) 31))
  clear hR hv
  go_enter Try.func53, Try.ntmps53
  go_wp2_with fail
  go_loopg [3, 4, 13] c.sv.length (fun gg s3 s4 s13 wr => ∃ i : Nat, i ≤ c.sv.length ∧ c.sv.length - i ≤ gg ∧ s13 = .int .i64 (i : Int) ∧ Aside0 (wr.heap[w.heap.size]? = some (.cells (c.cells ⟨A1, c1, A2, c2, A3, c3, A4, c4⟩) 31 (0, 0))) ∧ Aside0 (Below w.heap.size w wr))
  case atStart => exact ⟨0, Nat.zero_le _, by omega, rfl, HX0, HB0⟩
  case round =>
  clear HX0 HB0
  obtain ⟨i, hi, hgi, rfl, HX, HB⟩ := hrel
  by_cases hlt : i < c.sv.length
  · have hnm := Aside0.mk (HV.out.sname i hlt)
    have hix := HV.out.sidx i hlt
    obtain ⟨r0, r1, r2, r3, r4, r5, r6, r7⟩ := HV.out.srange i hlt
    have hsl := HV.out.slen i hlt
    obtain ⟨ad, A5, c5, e, t0, t1, t2, t3, t4, t5, l5, k5⟩ := at_T64 HR.out.r1 (i : Int) (by omega) (by omega)
    dsimp only at e
    subst e
    simp only [Int.toNat_natCast] at t0 t1 t2 t3 t4 t5
    rw [rd64 c.sv i hlt] at t0 t1 t2 t3 t4 t5 l5 k5
    replace t0 := (HB.out.cell (World.block_lt_of_cell? _ _ t0)).trans t0
    replace t1 := (HB.out.cell (World.block_lt_of_cell? _ _ t1)).trans t1
    replace t2 := (HB.out.cell (World.block_lt_of_cell? _ _ t2)).trans t2
    replace t3 := (HB.out.cell (World.block_lt_of_cell? _ _ t3)).trans t3
    replace t4 := (HB.out.cell (World.block_lt_of_cell? _ _ t4)).trans t4
    replace t5 := (HB.out.cell (World.block_lt_of_cell? _ _ t5)).trans t5
    clear k5
    generalize c.sv[i] = x at hnm hix r0 r1 r2 r3 r4 r5 r6 r7 hsl t0 t1 t2 t3 t4 t5 l5
    have hz1 : (i : Int) < (c.sv.length : Int) := by omega
    have H1 := Aside0.mk (fun W => outside_no x.f1 1 1048576 W r0 r1)
    have H2 := Aside0.mk (fun W => outside_no x.f2 0 1048576 W r2 r3)
    have H3 := Aside0.mk (fun W => outside_no x.f3 0 1048576 W r4 r5)
    have H4 := Aside0.mk (fun W => outside_no x.f4 0 1000000 W r6 r7)
    clear r0 r1 r2 r3 r4 r5 r6 r7 l5
    go_upto_region 4 with fail
    have HX1 := Aside0.mk (blk_alloc HX.out (.cells #[.string x.f0, .int .i64 x.f1, .int .i64 x.f2, .int .i64 x.f3, .int .i64 x.f4, .slice A5 x.f5.length c5] 64))
    have HY1 := Aside0.mk (blk_new wr (.cells #[.string x.f0, .int .i64 x.f1, .int .i64 x.f2, .int .i64 x.f3, .int .i64 x.f4, .slice A5 x.f5.length c5] 64))
    have HB1 := Aside0.mk (below_alloc HB.out (.cells #[.string x.f0, .int .i64 x.f1, .int .i64 x.f2, .int .i64 x.f3, .int .i64 x.f4, .slice A5 x.f5.length c5] 64))
    clear t0 t1 t2 t3 t4 t5
    generalize hgb : wr.heap.size = gb at HY1 ⊢
    generalize wr.alloc (.cells #[.string x.f0, .int .i64 x.f1, .int .i64 x.f2, .int .i64 x.f3, .int .i64 x.f4, .slice A5 x.f5.length c5] 64) = v0 at HX1 HY1 HB1 ⊢
    have y0 : v0.cell? ⟨gb, 0, none⟩ = some (.string x.f0) := (blk_cell HY1.out 0).trans rfl
    go_wp2_with fail
    refine (name_calls x.f0 hnm.out _).mono ?_
    rintro e v1 ⟨rfl, hb1⟩
    have HX2 := Aside0.mk (blk_below HX1.out hb1)
    have HY2 := Aside0.mk (blk_below HY1.out hb1)
    have HB2 := Aside0.mk (below_step HB1.out hb1)
    obtain ⟨q0, q1, q2, q3, q4, q5, q6, q7, q8, q9, q10, q11⟩ := cfg12 HX2.out
    replace y0 : v1.cell? ⟨gb, 0, none⟩ = some (.string x.f0) := (blk_cell HY2.out 0).trans rfl
    clear hb1 HX1 HY1 HB1
    go_wp2_with fail
    refine (index_calls c ⟨(some ad), c1, A2, c2, A3, c3, A4, c4⟩ x.f0 _ (HR.out.below HB2.out)).mono ?_
    rintro e v2 ⟨rfl, hb1⟩
    have z2 : decide (svIdx c.sv x.f0 < (i : Int)) = false := by simp; omega
    have HX3 := Aside0.mk (blk_below HX2.out hb1)
    have HY3 := Aside0.mk (blk_below HY2.out hb1)
    have HB3 := Aside0.mk (below_step HB2.out hb1)
    clear hb1 HX2 HY2 HB2 y0 q0 q1 q2 q3 q4 q5 q6 q7 q8 q9 q10 q11 hix
    have y1 : v2.cell? ⟨gb, 1, none⟩ = some (.int .i64 x.f1) := (blk_cell HY3.out 1).trans rfl
    generalize svIdx c.sv x.f0 = si at z2 ⊢
    go_wp2_with fail
    refine (H1.out _).mono ?_
    rintro e v3 ⟨rfl, hb1⟩
    have HX4 := Aside0.mk (blk_below HX3.out hb1)
    have HY4 := Aside0.mk (blk_below HY3.out hb1)
    have HB4 := Aside0.mk (below_step HB3.out hb1)
    have y2 : v3.cell? ⟨gb, 2, none⟩ = some (.int .i64 x.f2) := (blk_cell HY4.out 2).trans rfl
    clear hb1 y1 HX3 HY3 HB3
    go_wp2_with fail
    refine (H2.out _).mono ?_
    rintro e v4 ⟨rfl, hb1⟩
    have HX5 := Aside0.mk (blk_below HX4.out hb1)
    have HY5 := Aside0.mk (blk_below HY4.out hb1)
    have HB5 := Aside0.mk (below_step HB4.out hb1)
    have y3 : v4.cell? ⟨gb, 3, none⟩ = some (.int .i64 x.f3) := (blk_cell HY5.out 3).trans rfl
    clear hb1 y2 HX4 HY4 HB4
    go_wp2_with fail
    refine (H3.out _).mono ?_
    rintro e v5 ⟨rfl, hb1⟩
    have HX6 := Aside0.mk (blk_below HX5.out hb1)
    have HY6 := Aside0.mk (blk_below HY5.out hb1)
    have HB6 := Aside0.mk (below_step HB5.out hb1)
    have y4 : v5.cell? ⟨gb, 4, none⟩ = some (.int .i64 x.f4) := (blk_cell HY6.out 4).trans rfl
    clear hb1 y3 HX5 HY5 HB5
    go_wp2_with fail
    refine (H4.out _).mono ?_
    rintro e v6 ⟨rfl, hb1⟩
    have HX7 := Aside0.mk (blk_below HX6.out hb1)
    have HY7 := Aside0.mk (blk_below HY6.out hb1)
    have HB7 := Aside0.mk (below_step HB6.out hb1)
    have y5 : v6.cell? ⟨gb, 5, none⟩ = some (.slice A5 x.f5.length c5) := (blk_cell HY7.out 5).trans rfl
    clear hb1 y4 HX6 HY6 HB6
    have z5 : decide ((8 : Int) < (x.f5.length : Int)) = false := by simp; omega
    go_wp2_with fail
    go_roundg (c.sv.length - (i + 1))
    case measure => omega
    case rel => exact ⟨i + 1, by omega, by omega, by first | rfl | go_num, HX7, HB7⟩
  · have hz1 : decide (i < c.sv.length) = false := by simp; omega
    have hz2 : decide ((i : Int) < (c.sv.length : Int)) = false := by simp; omega
    clear hlt hi hgi
    have y1 : wr.cell? ⟨w.heap.size, 1, none⟩ = some (.slice A1 c.sv.length c1) := (blk_cell HX.out 1).trans rfl
    go_wp2_with fail
    clear y1
    go_loopg [5, 6, 8, 9, 58] c.sv.length (fun gg s5 s6 s8 s9 s58 wr => ∃ i : Nat, i ≤ c.sv.length ∧ c.sv.length - i ≤ gg ∧ s58 = .int .i64 (i : Int) ∧ Aside0 (wr.heap[w.heap.size]? = some (.cells (c.cells ⟨A1, c1, A2, c2, A3, c3, A4, c4⟩) 31 (0, 0))) ∧ Aside0 (Below w.heap.size w wr))
    case atStart => exact ⟨0, Nat.zero_le _, by omega, rfl, HX, HB⟩
    case round =>
    clear HX HB hz1 hz2
    obtain ⟨i, hi, hgi, rfl, HX, HB⟩ := hrel
    by_cases hlt : i < c.sv.length
    · have hsl := HV.out.slen i hlt
      have hcl := Aside0.mk (HV.out.scall i hlt)
      obtain ⟨ad, A5, c5, e, t0, t1, t2, t3, t4, t5, l5, k5⟩ := at_T64 HR.out.r1 (i : Int) (by omega) (by omega)
      dsimp only at e
      subst e
      simp only [Int.toNat_natCast] at t0 t1 t2 t3 t4 t5
      rw [rd64 c.sv i hlt] at t0 t1 t2 t3 t4 t5 l5 k5
      replace t0 := (HB.out.cell (World.block_lt_of_cell? _ _ t0)).trans t0
      replace t1 := (HB.out.cell (World.block_lt_of_cell? _ _ t1)).trans t1
      replace t2 := (HB.out.cell (World.block_lt_of_cell? _ _ t2)).trans t2
      replace t3 := (HB.out.cell (World.block_lt_of_cell? _ _ t3)).trans t3
      replace t4 := (HB.out.cell (World.block_lt_of_cell? _ _ t4)).trans t4
      replace t5 := (HB.out.cell (World.block_lt_of_cell? _ _ t5)).trans t5
      have K5 := Aside0.mk (Kd.C_below k5 HB.out)
      clear k5
      generalize c.sv[i] = x at hcl hsl t0 t1 t2 t3 t4 t5 l5 K5
      have hz1 : (i : Int) < (c.sv.length : Int) := by omega
      go_upto_region 16 with fail
      replace K5 := Aside0.mk (Kd.C_below K5.out (below_alloc (Below.refl _ _) (.cells #[.string x.f0, .int .i64 x.f1, .int .i64 x.f2, .int .i64 x.f3, .int .i64 x.f4, .slice A5 x.f5.length c5] 64)))
      have HX1 := Aside0.mk (blk_alloc HX.out (.cells #[.string x.f0, .int .i64 x.f1, .int .i64 x.f2, .int .i64 x.f3, .int .i64 x.f4, .slice A5 x.f5.length c5] 64))
      have HY1 := Aside0.mk (blk_new wr (.cells #[.string x.f0, .int .i64 x.f1, .int .i64 x.f2, .int .i64 x.f3, .int .i64 x.f4, .slice A5 x.f5.length c5] 64))
      have HB1 := Aside0.mk (below_alloc HB.out (.cells #[.string x.f0, .int .i64 x.f1, .int .i64 x.f2, .int .i64 x.f3, .int .i64 x.f4, .slice A5 x.f5.length c5] 64))
      clear t0 t1 t2 t3 t4 t5
      generalize hgb : wr.heap.size = gb at HY1 ⊢
      generalize wr.alloc (.cells #[.string x.f0, .int .i64 x.f1, .int .i64 x.f2, .int .i64 x.f3, .int .i64 x.f4, .slice A5 x.f5.length c5] 64) = v0 at HX1 HY1 HB1 K5 ⊢
      have y5 : v0.cell? ⟨gb, 5, none⟩ = some (.slice A5 x.f5.length c5) := (blk_cell HY1.out 5).trans rfl
      clear HY1
      go_wp2_with fail
      clear y5
      go_loopg [8, 9, 66] x.f5.length (fun gg s8 s9 s66 wr => ∃ j : Nat, j ≤ x.f5.length ∧ x.f5.length - j ≤ gg ∧ s66 = .int .i64 (j : Int) ∧ Aside0 (wr.heap[w.heap.size]? = some (.cells (c.cells ⟨(some ad), c1, A2, c2, A3, c3, A4, c4⟩) 31 (0, 0))) ∧ Aside0 (Below w.heap.size w wr) ∧ Aside0 (Kd.string.C wr A5 x.f5.length x.f5))
      case atStart => exact ⟨0, Nat.zero_le _, by omega, rfl, HX1, HB1, K5⟩
      case round =>
      clear HX1 HB1 K5 HX HB
      obtain ⟨j, hj, hgj, rfl, HX, HB, K5⟩ := hrel
      by_cases hlj : j < x.f5.length
      · obtain ⟨ad5, e5, u0⟩ := Kd.at_string K5.out (j : Int) (by omega) (by omega)
        subst e5
        simp only [Int.toNat_natCast] at u0
        have hlt2 := hcl.out (rdOf ByteArray.empty x.f5 (j : Int)) (by
          unfold rdOf
          rw [Int.toNat_natCast, List.getD_eq_getElem?_getD, List.getElem?_eq_getElem hlj]
          exact List.getElem_mem _)
        generalize rdOf ByteArray.empty x.f5 (j : Int) = nm at u0 hlt2
        have hz3 : (j : Int) < (x.f5.length : Int) := by omega
        go_upto_region 19 with fail
        clear u0
        obtain ⟨q0, q1, q2, q3, q4, q5, q6, q7, q8, q9, q10, q11⟩ := cfg12 HX.out
        go_wp2_with fail
        refine (index_calls c ⟨(some ad), c1, A2, c2, A3, c3, A4, c4⟩ nm _ (HR.out.below HB.out)).mono ?_
        rintro e v2 ⟨rfl, hb1⟩
        have HX3 := Aside0.mk (blk_below HX.out hb1)
        have HB3 := Aside0.mk (below_step HB.out hb1)
        have K53 := Aside0.mk (Kd.C_below K5.out hb1)
        clear hb1 HX HB K5 q0 q1 q2 q3 q4 q5 q6 q7 q8 q9 q10 q11
        have z2 : decide (svIdx c.sv nm < 0) = false := by simp; omega
        have z3 : decide (svIdx c.sv nm ≤ (i : Int)) = false := by simp; omega
        clear hlt2
        generalize svIdx c.sv nm = si at z2 z3 ⊢
        go_wp2_with fail
        go_roundg (x.f5.length - (j + 1))
        case measure => omega
        case rel => exact ⟨j + 1, by omega, by omega, by first | rfl | go_num, HX3, HB3, K53⟩
      · have hz3 : decide (j < x.f5.length) = false := by simp; omega
        have hz4 : decide ((j : Int) < (x.f5.length : Int)) = false := by simp; omega
        clear hlj
        go_wp2_with fail
        go_roundg (c.sv.length - (i + 1))
        case measure => omega
        case rel => exact ⟨i + 1, by omega, by omega, by first | rfl | go_num, HX, HB⟩
    · have hz1 : decide (i < c.sv.length) = false := by simp; omega
      have hz2 : decide ((i : Int) < (c.sv.length : Int)) = false := by simp; omega
      clear hlt
      go_wp2
      go_ret
      exact ⟨rfl, HB.out⟩
noncomputable def ckAll (k : Nat) (c : Cfg) : Option Int := open Classical in if Valid c then some 0 else none
theorem ckAll_ok {c : Cfg} (hv : Valid c) (k : Nat) : ckAll k c = some 0 := if_pos hv
set_option maxHeartbeats 4000000 in
set_option maxRecDepth 100000 in
theorem check_calls (k : Nat) (c : Cfg) (p : CfgAt) (r : Int) (w : World) (hR : CfgR w p c) (h : ckAll k c = some r) :
    Calls Try.prog 27 #[c.val p] w fun e w' => e = .returned (.int .i64 r) ∧ Below w.heap.size w w' := by
  have HR := Aside0.mk hR
  clear hR
  unfold ckAll at h
  split at h
  case isFalse => cases h
  case isTrue hv =>
  obtain rfl := Option.some.inj h
  have b0 := hv.seed0
  have b1 := hv.seed1
  have b2 := hv.n0
  have b3 := hv.n1
  have b4 := hv.nf
  have k1 : decide (c.seed < 0 ∨ 1048576 < c.seed) = false := by simp; omega
  have k2 : ((c.sv.length : Int) == 0) = false := by simp; intro h; simp [h] at b2
  have k3 : decide ((16 : Int) < (c.sv.length : Int)) = false := by simp; omega
  have k4 : decide ((16 : Int) < (c.fl.length : Int)) = false := by simp; omega
  have HV := Aside0.mk hv
  clear h hv b0 b1 b2 b3 b4
  go_enter Try.func27, Try.ntmps27
  go_wp2_with (go_at_call 52; refine (outside_calls _ _ _ _).mono ?_; rintro e w1 ⟨rfl, ⟨nd, rfl⟩⟩)
  have x0 : ∀ (a b c d e : Value) (W : World), (Instr.index 119 (.agg #[a, b, c, d, e]) (.int .i64 0)).run Try.prog W = .ok a W := fun _ _ _ _ _ _ => by kernel_rfl
  have x1 : ∀ (a b c d e : Value) (W : World), (Instr.index 119 (.agg #[a, b, c, d, e]) (.int .i64 1)).run Try.prog W = .ok b W := fun _ _ _ _ _ _ => by kernel_rfl
  have x2 : ∀ (a b c d e : Value) (W : World), (Instr.index 119 (.agg #[a, b, c, d, e]) (.int .i64 2)).run Try.prog W = .ok c W := fun _ _ _ _ _ _ => by kernel_rfl
  have x3 : ∀ (a b c d e : Value) (W : World), (Instr.index 119 (.agg #[a, b, c, d, e]) (.int .i64 3)).run Try.prog W = .ok d W := fun _ _ _ _ _ _ => by kernel_rfl
  have x4 : ∀ (a b c d e : Value) (W : World), (Instr.index 119 (.agg #[a, b, c, d, e]) (.int .i64 4)).run Try.prog W = .ok e W := fun _ _ _ _ _ _ => by kernel_rfl
  go_loopg [38] 5 (fun gg s38 wr => ∃ (i : Nat), i ≤ 5 ∧ 5 - i ≤ gg ∧ s38 = .int .i64 i ∧ Aside0 (wr.heap[w.heap.size]? = some (.cells (c.cells p) 31 (0, 0))) ∧ Aside0 (Below w.heap.size w wr))
  case atStart =>
    refine ⟨0, by omega, by omega, by rfl, ⟨?_⟩, ⟨?_⟩⟩
    · repeat (first | (with_reducible exact blk_new w _) | (with_reducible refine blk_drewN ?_ _) | (with_reducible refine blk_drew ?_) | (with_reducible refine blk_alloc ?_ _))
    · repeat (first | exact Below.refl _ _ | apply below_alloc | apply pw_below_drewN)
  case round =>
    obtain ⟨i, hi, hgi, rfl, BK, HB⟩ := hrel
    by_cases hlt : i < 5
    · match i, hlt with
      | 0, _ =>
        go_wp2_with fail
        refine (ckS_walk c p _ (HR.out.below HB.out) HV.out).mono ?_
        rintro e w1 ⟨rfl, hb1⟩
        go_wp2_with fail
        go_roundg (5 - (0 + 1))
        case measure => omega
        case rel => exact ⟨0 + 1, by omega, by omega, by rfl, ⟨blk_below BK.out hb1⟩, ⟨below_step HB.out hb1⟩⟩
      | 1, _ =>
        go_wp2_with fail
        refine (ckO_walk c p _ (HR.out.below HB.out) HV.out).mono ?_
        rintro e w1 ⟨rfl, hb1⟩
        go_wp2_with fail
        go_roundg (5 - (1 + 1))
        case measure => omega
        case rel => exact ⟨1 + 1, by omega, by omega, by rfl, ⟨blk_below BK.out hb1⟩, ⟨below_step HB.out hb1⟩⟩
      | 2, _ =>
        have HC := Aside0.mk (ckD_calls c p w.heap.size wr (HR.out.below HB.out) BK.out)
        rw [HV.out.ch] at HC
        go_wp2_with fail
        refine HC.out.mono ?_
        rintro e w1 ⟨rfl, hb1⟩
        go_wp2_with fail
        go_roundg (5 - (2 + 1))
        case measure => omega
        case rel => exact ⟨2 + 1, by omega, by omega, by rfl, ⟨blk_below BK.out hb1⟩, ⟨below_step HB.out hb1⟩⟩
      | 3, _ =>
        go_wp2_with fail
        refine (ckF_walk c p _ (HR.out.below HB.out) HV.out).mono ?_
        rintro e w1 ⟨rfl, hb1⟩
        go_wp2_with fail
        go_roundg (5 - (3 + 1))
        case measure => omega
        case rel => exact ⟨3 + 1, by omega, by omega, by rfl, ⟨blk_below BK.out hb1⟩, ⟨below_step HB.out hb1⟩⟩
      | 4, _ =>
        go_wp2_with fail
        refine (ckR_walk c p _ (HR.out.below HB.out) HV.out).mono ?_
        rintro e w1 ⟨rfl, hb1⟩
        go_wp2_with fail
        go_roundg (5 - (4 + 1))
        case measure => omega
        case rel => exact ⟨4 + 1, by omega, by omega, by rfl, ⟨blk_below BK.out hb1⟩, ⟨below_step HB.out hb1⟩⟩
    · obtain rfl : i = 5 := by omega
      go_wp2_with fail
      go_ret
      exact ⟨by rfl, HB.out⟩
structure Tr where
  id : Int
  l : List Sp
def trc : List (Tr × Value) → List Value
  | [] => []
  | x :: r => [.int .i64 x.1.id, .int .i64 1, x.2] ++ trc r
theorem trc_snoc (l : List (Tr × Value)) (x : Tr × Value) : trc (l ++ [x]) = trc l ++ [.int .i64 x.1.id, .int .i64 1, x.2] := by
  induction l with
  | nil => rfl
  | cons a r ih => simp [trc, ih]
def TsR (W : World) (base : Nat) (xs : List (Tr × Value)) : Prop := ∀ x ∈ xs, W.ownsRow base 56 14 x.2 x.1.l.length (spc x.1.l)
def trK (tv : Int → Option (List Sp)) (f : Sp → Sp) : Nat → Int → List Tr → Option (List Tr)
  | 0, _, acc => some acc
  | j + 1, k, acc => if acc.length < 100000 then (tv k).bind fun l => match l with
    | [] => none
    | s :: r => trK tv f j (k + 1) (acc ++ [⟨s.tr, (s :: r).map f⟩])
    else none
def trS (n : Nat) (c : Cfg) (f : Sp → Sp) : Nat → Int → List Tr → Option (List Tr)
  | 0, _, acc => some acc
  | j + 1, s, acc => (trK (traceV n c s) f c.per.toNat 0 acc).bind fun a => trS n c f j (s + 1) a
def tracesV (n : Nat) (c : Cfg) (f : Sp → Sp) : Option (List Tr) := if 0 ≤ c.sfrom ∧ c.sto ≤ 1048576 ∧ c.per ≤ 1048576 then trS n c f (c.sto - c.sfrom).toNat c.sfrom [] else none
theorem own_base {W : World} {b b' : Nat} {e : TypeId} {sz n : Nat} {v : Value} {xs : List Value} (h : W.ownsRow b e sz v n xs) (hb : b' ≤ b) : W.ownsRow b' e sz v n xs := by
  refine ⟨h.1, ?_⟩
  rcases h.2 with h | ⟨g, cap, cur, h1, h2, h3⟩
  · exact .inl h
  · exact .inr ⟨g, cap, cur, h1, Nat.le_trans hb h2, h3⟩
theorem TsR.below {W W' : World} {base : Nat} {xs : List (Tr × Value)} (h : TsR W base xs) (hb : Below W.heap.size W W') : TsR W' base xs := fun x hx => pw_own_below (h x hx) hb
theorem own_keep {W W' : World} {b : Nat} {e : TypeId} {sz n : Nat} {v : Value} {xs : List Value} (h : W.ownsRow b e sz v n xs) (hk : ∀ (g : Nat) (cur : Array Value), W.heap[g]? = some (Obj.cells cur e (0, 0)) → W'.heap[g]? = W.heap[g]?) : W'.ownsRow b e sz v n xs := by
  refine ⟨h.1, ?_⟩
  rcases h.2 with h | ⟨g, cap, cur, h1, h2, h3, h4⟩
  · exact .inl h
  · exact .inr ⟨g, cap, cur, h1, h2, (hk g cur h3).trans h3, h4⟩
theorem own_some {W : World} {b : Nat} {e : TypeId} {sz n : Nat} {v : Value} {xs : List Value} (h : W.ownsRow b e sz v n xs) (hn : 0 < n) : ∃ (r cp : Nat) (cur : Array Value), v = .slice (some ⟨r, 0, none⟩) n cp ∧ W.heap[r]? = some (Obj.cells cur e (0, 0)) ∧ b ≤ r := by
  rcases h.2 with ⟨_, h⟩ | ⟨g, cap, cur, h1, h2, h3, h4⟩
  · omega
  · exact ⟨g, cap, cur, h1, h3, h2⟩
def TsOut (base : Nat) (w' : World) (ts : List Tr) (v : Value) : Prop := ∃ xs : List (Tr × Value), xs.map (·.1) = ts ∧ w'.ownsRow base 51 3 v xs.length (trc xs) ∧ TsR w' base xs
def mid (f : Sp → Sp) (l : List Sp) (i : Nat) : List Sp := (l.take i).map f ++ l.drop i
theorem mid_len (f : Sp → Sp) (l : List Sp) (i : Nat) : (mid f l i).length = l.length := by
  unfold mid
  rw [List.length_append, List.length_map, List.length_take, List.length_drop]
  omega
theorem mid_get? (f : Sp → Sp) (l : List Sp) (i : Nat) (hi : i < l.length) : (mid f l i)[i]? = some l[i] := by
  unfold mid
  rw [List.getElem?_append_right (by simp; omega)]
  simp only [List.length_map, List.length_take, List.getElem?_drop]
  rw [show i + (i - min i l.length) = i from by omega, List.getElem?_eq_getElem hi]
theorem mid_get (f : Sp → Sp) (l : List Sp) (i : Nat) (hi : i < l.length) (h : i < (mid f l i).length) : (mid f l i)[i] = l[i] := by
  have h1 := mid_get? f l i hi
  rw [List.getElem?_eq_getElem h] at h1
  exact Option.some.inj h1
theorem mid_set (f : Sp → Sp) (l : List Sp) (i : Nat) (hi : i < l.length) : (mid f l i).set i (f l[i]) = mid f l (i + 1) := by
  unfold mid
  rw [List.set_append_right _ _ (by simp; omega)]
  rw [List.take_succ_eq_append_getElem hi, List.drop_eq_getElem_cons hi]
  simp only [List.length_map, List.length_take, List.map_append, List.map_cons, List.map_nil, List.append_assoc, List.cons_append, List.nil_append]
  rw [show i - min i l.length = 0 from by omega]
  rfl
theorem mid_end (f : Sp → Sp) (l : List Sp) : mid f l l.length = l.map f := by simp [mid]
theorem mid_zero (f : Sp → Sp) (l : List Sp) : mid f l 0 = l := by simp [mid]
set_option maxHeartbeats 8000000 in
set_option maxRecDepth 100000 in
theorem traces_calls (n k : Nat) (c : Cfg) (p : CfgAt) (w : World) (fid : Nat) (caps : Array Value) (f : Sp → Sp) (ts : List Tr) (hR : CfgR w p c) (hsh : Shows fid caps f w.heap.size w (fun W => Below w.heap.size w W)) (hck : ckAll k c = some 0) (h : tracesV n c f = some ts) :
    Calls Try.prog 36 #[c.val p, .func (.func fid) #[] caps] w fun e w' => ∃ v, e = .returned (.tuple #[v, .int .i64 0]) ∧ TsOut w.heap.size w' ts v ∧ Below w.heap.size w w' := by
  unfold tracesV at h
  by_cases hg : 0 ≤ c.sfrom ∧ c.sto ≤ 1048576 ∧ c.per ≤ 1048576
  case neg => rw [if_neg hg] at h; cases h
  rw [if_pos hg] at h
  obtain ⟨hg0, hg1, hg2⟩ := hg
  have HR := Aside0.mk hR
  have HA := Aside0.mk h
  have HCK := Aside0.mk hck
  have eg := hsh.1
  have HSH := Aside0.mk hsh.2
  clear hR h hck hsh
  obtain ⟨A1, c1, A2, c2, A3, c3, A4, c4⟩ := p
  go_enter Try.func36, Try.ntmps36
  go_wp2_with fail
  refine (check_calls k c ⟨A1, c1, A2, c2, A3, c3, A4, c4⟩ 0 _ (HR.out.below (below_alloc (Below.refl _ _) _)) HCK.out).mono ?_
  rintro e w1 ⟨rfl, hb1⟩
  have HB := Aside0.mk (below_step (below_alloc (Below.refl w.heap.size w) _) hb1)
  have HX := Aside0.mk (blk_below (blk_new w (.cells (c.cells ⟨A1, c1, A2, c2, A3, c3, A4, c4⟩) 31)) hb1)
  clear hb1 HCK
  have q5 : w1.cell? ⟨w.heap.size, 5, none⟩ = some (.int .i64 c.sfrom) := (blk_cell HX.out 5).trans rfl
  go_wp2_with fail
  clear q5
  go_loopg [7, 8] (c.sto - c.sfrom).toNat (fun gg s7 s8 wr => ∃ (j : Nat) (s : Int) (acc : List Tr) (xs : List (Tr × Value)) (cp : Nat) (A : Option Addr), s7 = .slice A xs.length cp ∧ s8 = .int .i64 s ∧ j ≤ gg ∧ Aside0 (j = (c.sto - s).toNat) ∧ c.sfrom ≤ s ∧ Aside0 (trS n c f j s acc = some ts) ∧ Aside0 (xs.map (·.1) = acc) ∧ Aside0 (wr.ownsRow w.heap.size 51 3 (.slice A xs.length cp) xs.length (trc xs)) ∧ Aside0 (TsR wr w.heap.size xs) ∧ Aside0 (Below w.heap.size w wr) ∧ Aside0 (wr.heap[w.heap.size]? = some (.cells (c.cells ⟨A1, c1, A2, c2, A3, c3, A4, c4⟩) 31 (0, 0))))
  case atStart => exact ⟨(c.sto - c.sfrom).toNat, c.sfrom, [], [], 0, none, by rfl, by rfl, by omega, ⟨rfl⟩, by omega, HA, ⟨rfl⟩, ⟨rfl, .inl ⟨rfl, rfl⟩⟩, ⟨fun _ h => by cases h⟩, HB, HX⟩
  case round =>
    clear HA HB HX
    obtain ⟨j, s, acc, xs, cp, A, rfl, rfl, hj, HJ, hs0, HA, HM, HO, HT, HB, HX⟩ := hrel
    have q5 : wr.cell? ⟨w.heap.size, 6, none⟩ = some (.int .i64 c.sto) := (blk_cell HX.out 6).trans rfl
    have q6 : wr.cell? ⟨w.heap.size, 7, none⟩ = some (.int .i64 c.per) := (blk_cell HX.out 7).trans rfl
    cases j with
    | zero =>
      have hjj := HJ.out
      have hx : ¬ s < c.sto := by omega
      have g0 : decide (s < c.sto) = false := by simpa using hx
      have hA := HA.out
      rw [trS] at hA
      obtain rfl := Option.some.inj hA
      clear hA HA hjj HJ
      go_wp2_with fail
      refine bodyPost_ret (results_tmp2 rfl _ _ _) rfl ?_
      exact ⟨_, by rfl, ⟨xs, HM.out, HO.out, HT.out⟩, HB.out⟩
    | succ j =>
      have hjj := HJ.out
      have hx : s < c.sto := by omega
      have g0 : decide (s < c.sto) = true := by simpa using hx
      have hA := HA.out
      rw [trS] at hA
      obtain ⟨a1, hK, hA⟩ := Option.bind_eq_some_iff.mp hA
      have HA := Aside0.mk hA
      have HK := Aside0.mk hK
      have s1 : IntKind.i64.wrap (s + 1) = s + 1 := IntWalk.i64_in _ (by omega)
      have HJ1 := Aside0.mk (show j = (c.sto - (s + 1)).toNat from by omega)
      clear hA hK hjj HJ
      go_wp2_with fail
      obtain ⟨wq, rfl⟩ : ∃ wq : World, wq = wr := ⟨_, rfl⟩
      go_loopg [7, 29] c.per.toNat (fun gg s7 s29 wr => ∃ (i : Nat) (kk : Int) (acc : List Tr) (xs : List (Tr × Value)) (cp : Nat) (A : Option Addr), s7 = .slice A xs.length cp ∧ s29 = .int .i64 kk ∧ i ≤ gg ∧ Aside0 (i = (c.per - kk).toNat) ∧ 0 ≤ kk ∧ Aside0 (trK (traceV n c s) f i kk acc = some a1) ∧ Aside0 (xs.map (·.1) = acc) ∧ Aside0 (wr.ownsRow w.heap.size 51 3 (.slice A xs.length cp) xs.length (trc xs)) ∧ Aside0 (TsR wr w.heap.size xs) ∧ Aside0 (Below w.heap.size w wr) ∧ Aside0 (wr.heap[w.heap.size]? = some (.cells (c.cells ⟨A1, c1, A2, c2, A3, c3, A4, c4⟩) 31 (0, 0))))
      case atStart => exact ⟨c.per.toNat, 0, acc, xs, cp, A, by rfl, by rfl, by omega, ⟨by omega⟩, by omega, HK, HM, HO, HT, HB, HX⟩
      case round =>
        clear HK HM HO HT HB HX q5 q6 g0
        obtain ⟨i, kk, acc, xs, cp, A, rfl, rfl, hi, HI, hk0, HK, HM, HO, HT, HB, HX⟩ := hrel
        cases i with
        | zero =>
          have hii := HI.out
          have hx2 : ¬ kk < c.per := by omega
          have g0 : decide (kk < c.per) = false := by simpa using hx2
          have hK := HK.out
          rw [trK] at hK
          obtain rfl := Option.some.inj hK
          clear hK HK hii HI
          go_wp2_with fail
          go_roundg j
          case measure => omega
          case rel => exact ⟨j, s + 1, acc, xs, cp, A, by rfl, by go_num, Nat.le_refl _, HJ1, by omega, HA, HM, HO, HT, HB, HX⟩
        | succ i =>
          have hii := HI.out
          have hx2 : kk < c.per := by omega
          have g0 : decide (kk < c.per) = true := by simpa using hx2
          have hK := HK.out
          rw [trK] at hK
          by_cases hacc : acc.length < 100000
          case neg => rw [if_neg hacc] at hK; cases hK
          rw [if_pos hacc] at hK
          obtain ⟨l, hl, hK⟩ := Option.bind_eq_some_iff.mp hK
          obtain ⟨sp0, sps, rfl⟩ : ∃ a b, l = a :: b := by
            cases l with
            | nil => cases hK
            | cons a b => exact ⟨a, b, rfl⟩
          have HK' := Aside0.mk hK
          have HL := Aside0.mk hl
          have HI1 := Aside0.mk (show i = (c.per - (kk + 1)).toNat from by omega)
          have s2 : IntKind.i64.wrap (kk + 1) = kk + 1 := IntWalk.i64_in _ (by omega)
          clear hK hl HK hii HI
          have p0 : wr.cell? ⟨w.heap.size, 0, none⟩ = some (.int .i64 c.seed) := (blk_cell HX.out 0).trans rfl
          have p1 : wr.cell? ⟨w.heap.size, 1, none⟩ = some (.slice A1 c.sv.length c1) := (blk_cell HX.out 1).trans rfl
          have p2 : wr.cell? ⟨w.heap.size, 2, none⟩ = some (.slice A2 c.off.length c2) := (blk_cell HX.out 2).trans rfl
          have p3 : wr.cell? ⟨w.heap.size, 3, none⟩ = some (.slice A3 c.ch.length c3) := (blk_cell HX.out 3).trans rfl
          have p4 : wr.cell? ⟨w.heap.size, 4, none⟩ = some (.slice A4 c.fl.length c4) := (blk_cell HX.out 4).trans rfl
          have p5 : wr.cell? ⟨w.heap.size, 5, none⟩ = some (.int .i64 c.sfrom) := (blk_cell HX.out 5).trans rfl
          have p6 : wr.cell? ⟨w.heap.size, 6, none⟩ = some (.int .i64 c.sto) := (blk_cell HX.out 6).trans rfl
          have p7 : wr.cell? ⟨w.heap.size, 7, none⟩ = some (.int .i64 c.per) := (blk_cell HX.out 7).trans rfl
          have p8 : wr.cell? ⟨w.heap.size, 8, none⟩ = some (.int .i64 c.delay) := (blk_cell HX.out 8).trans rfl
          have p9 : wr.cell? ⟨w.heap.size, 9, none⟩ = some (.int .i64 c.chunk) := (blk_cell HX.out 9).trans rfl
          have p10 : wr.cell? ⟨w.heap.size, 10, none⟩ = some (.int .i64 c.loss) := (blk_cell HX.out 10).trans rfl
          have p11 : wr.cell? ⟨w.heap.size, 11, none⟩ = some (.int .i64 c.rep) := (blk_cell HX.out 11).trans rfl
          go_wp2_with fail
          refine (trace_calls n c ⟨A1, c1, A2, c2, A3, c3, A4, c4⟩ s kk wr (sp0 :: sps) (HR.out.below HB.out) HL.out).mono ?_
          rintro e w3 ⟨v0, rfl, ho0, hb0⟩
          obtain ⟨r, cp0, cur, rfl, hr, hbr⟩ := own_some ho0 (by simp)
          have HO0 := Aside0.mk ho0
          have HR0 := Aside0.mk hr
          have HB0 := Aside0.mk hb0
          have hw3 := hb0.size
          obtain ⟨e0, _, _, hr3⟩ := own_cell56 HO0.out 0 0 (by simp) (by omega)
          replace e0 : w3.cell? ⟨r, 0, none⟩ = some (.int .i64 sp0.tr) := by simpa [Sp.cells] using e0
          clear ho0 hr hb0 p0 p1 p2 p3 p4 p5 p6 p7 p8 p9 p10 p11 HL
          have n1 : r ≠ w3.heap.size := by omega
          have hlen : (sp0 :: sps).length = sps.length + 1 := rfl
          go_wp2_with fail
          obtain ⟨wt, rfl⟩ : ∃ wt : World, wt = wr := ⟨_, rfl⟩
          have hbw : Below wt.heap.size wt (w3.alloc (.cells #[.int .i64 sp0.tr, .int .i64 1, .slice (some ⟨r, 0, none⟩) (sps.length + 1) cp0] 51)) := below_alloc HB0.out _
          have HB4 := Aside0.mk hbw
          have HO4 : Aside0 ((w3.alloc (.cells #[.int .i64 sp0.tr, .int .i64 1, .slice (some ⟨r, 0, none⟩) (sps.length + 1) cp0] 51)).ownsRow wt.heap.size 56 14 (.slice (some ⟨r, 0, none⟩) (sps.length + 1) cp0) (sps.length + 1) (spc (mid f (sp0 :: sps) 0))) := ⟨by rw [mid_zero]; exact pw_own_below HO0.out (below_alloc (Below.refl _ _) _)⟩
          have HV4 := Aside0.mk (blk_new w3 (.cells #[.int .i64 sp0.tr, .int .i64 1, .slice (some ⟨r, 0, none⟩) (sps.length + 1) cp0] 51))
          have hbig : sps.length + 1 ≤ 9223372036854775807 := by
            rcases HO0.out.2 with ⟨_, h⟩ | ⟨_, cap, _, _, _, _, h1, h2, _⟩
            · simp at h
            · have h3 : (sp0 :: sps).length = sps.length + 1 := rfl
              have h4 : maxLen ≤ 9223372036854775807 := by decide
              omega
          clear hbw HO0 HR0 HB0 e0 hlen
          obtain ⟨bx, hbx⟩ : ∃ b, b = w3.heap.size := ⟨_, rfl⟩
          rw [← hbx] at HV4 n1 ⊢
          have HBX := Aside0.mk hbx
          clear hbx
          go_loopg [46] (sps.length + 1) (fun gg s46 w4 => ∃ (m : Nat), m ≤ sps.length + 1 ∧ sps.length + 1 - m ≤ gg ∧ s46 = .int .i64 m ∧ Aside0 (w4.ownsRow wt.heap.size 56 14 (.slice (some ⟨r, 0, none⟩) (sps.length + 1) cp0) (sps.length + 1) (spc (mid f (sp0 :: sps) m))) ∧ Aside0 (w4.heap[bx]? = some (.cells #[.int .i64 sp0.tr, .int .i64 1, .slice (some ⟨r, 0, none⟩) (sps.length + 1) cp0] 51 (0, 0))) ∧ Aside0 (Below wt.heap.size wt w4))
          case atStart => exact ⟨0, by omega, by omega, by rfl, HO4, HV4, HB4⟩
          case round =>
            clear HO4 HV4 HB4
            obtain ⟨m, hm, hgm, rfl, HO4, HV4, HB4⟩ := hrel
            have q2 : wr.cell? ⟨bx, 2, none⟩ = some (.slice (some ⟨r, 0, none⟩) (sps.length + 1) cp0) := (blk_cell HV4.out 2).trans rfl
            by_cases hlt : m < sps.length + 1
            · have g1 : decide ((m : Int) < (sps.length : Int) + 1) = true := by simp; omega
              have g2 : (m : Int) < (sps.length : Int) + 1 := by omega
              have g3 : (m : Int) < ((sps.length + 1 : Nat) : Int) := by omega
              have s3 : IntKind.i64.wrap ((m : Int) + 1) = (m : Int) + 1 := IntWalk.i64_in _ (by omega)
              go_wp2_with fail
              have hml : (mid f (sp0 :: sps) m).length = sps.length + 1 := mid_len f (sp0 :: sps) m
              have ho' : wr.ownsRow wt.heap.size 56 14 (.slice (some ⟨r, 0, none⟩) (mid f (sp0 :: sps) m).length cp0) (mid f (sp0 :: sps) m).length (spc (mid f (sp0 :: sps) m)) := by rw [hml]; exact HO4.out
              have hbW := below_step HB.out HB4.out
              have hc := HSH.out wr r cp0 wt.heap.size m (mid f (sp0 :: sps) m) (by omega) hbW hbW HB.out.size HB4.out.size ho'
              rw [mid_get f (sp0 :: sps) m hlt, mid_set f (sp0 :: sps) m hlt, hml] at hc
              refine hc.mono ?_
              rintro e w5 ⟨rfl, ho5, hb5, hk5⟩
              have hbxw : bx < wr.heap.size := blk_lt HV4.out
              have HV5 := Aside0.mk ((hk5 bx hbxw (Ne.symm n1)).trans HV4.out)
              have HO5 := Aside0.mk ho5
              have HB5 := Aside0.mk (HB4.out.trans hb5)
              clear ho5 hb5 hk5 hc ho' hbW hml q2 HO4 HV4 HB4
              go_wp2_with fail
              go_roundg (sps.length + 1 - (m + 1))
              case measure => omega
              case rel => exact ⟨m + 1, by omega, Nat.le_refl _, by go_num, HO5, HV5, HB5⟩
            · obtain rfl : m = sps.length + 1 := by omega
              have g1 : decide (((sps.length + 1 : Nat) : Int) < (sps.length : Int) + 1) = false := by simp
              have q0 : wr.cell? ⟨bx, 0, none⟩ = some (.int .i64 sp0.tr) := (blk_cell HV4.out 0).trans rfl
              have q1 : wr.cell? ⟨bx, 1, none⟩ = some (.int .i64 1) := (blk_cell HV4.out 1).trans rfl
              have hO := HO4.out
              have hlen : mid f (sp0 :: sps) (sps.length + 1) = (sp0 :: sps).map f := mid_end f (sp0 :: sps)
              rw [hlen] at hO
              have HO5 := Aside0.mk (own_base hO HB.out.size)
              have HT5 := Aside0.mk (HT.out.below HB4.out)
              have HO6 := Aside0.mk (pw_own_below HO.out HB4.out)
              have HX5 := Aside0.mk (blk_below HX.out HB4.out)
              have HB5 := Aside0.mk (below_step HB.out HB4.out)
              have hxl : xs.length < 100000 := by
                have h1 := congrArg List.length HM.out
                rw [List.length_map] at h1
                omega
              clear hO hlen HO4 HV4 HB4 HT HO HX HB
              have hbase : w.heap.size ≤ wr.heap.size := HB5.out.size
              have q2 : wr.cell? ⟨bx, 2, none⟩ = some (.slice (some ⟨r, 0, none⟩) (sps.length + 1) cp0) := q2
              go_wp2_with (at_builtin; go_must (refine print_append_cells (w0 := w) w.heap.size rfl _ _ 43 51 _ 3 40 rfl Try.underlying43 info51 rfl (by decide) (by decide) (.slice A xs.length cp) xs.length (trc xs) [.int .i64 sp0.tr, .int .i64 1, .slice (some ⟨r, 0, none⟩) (sps.length + 1) cp0] rfl ?c4 rfl ?c1 HO6.out HB5.out ?c2 ?c3 ?_; (case c1 => intro u hu; simp at hu; rcases hu with rfl | rfl | rfl <;> rfl); (case c4 => show Value.slice (some ⟨wr.heap.size, 0, none⟩) 1 1 = _; first | rfl | simp); (case c2 => first | omega | (simp; omega)); (case c3 => first | omega | (simp; omega)); intro v1 w1 hown1 hb1 hg1 hat1; obtain ⟨A1', cp1, rfl⟩ := own_slice hown1; have HW := Aside0.mk hown1; have HG := Aside0.mk hg1; have HB6 := Aside0.mk hb1; clear hown1 hg1 hb1 hat1))
              have hkeep : ∀ (b : Nat) (cur : Array Value) (ty : TypeId), ty ≠ 51 → wr.heap[b]? = some (Obj.cells cur ty (0, 0)) → w1.heap[b]? = wr.heap[b]? := fun b cur ty hty hb => HG.out.block b (blk_lt hb) (fun e => by
                obtain ⟨cells, hc⟩ := own_typed HO6.out b e.symm
                rw [hb] at hc
                injection hc with hc
                injection hc with _ h2
                exact hty h2)
              have HT7 : Aside0 (TsR w1 w.heap.size (xs ++ [(⟨sp0.tr, (sp0 :: sps).map f⟩, .slice (some ⟨r, 0, none⟩) (sps.length + 1) cp0)])) := ⟨fun x hx => by
                rcases List.mem_append.mp hx with hx | hx
                · exact own_keep (HT5.out x hx) (fun b cur hb => hkeep b cur 56 (by decide) hb)
                · obtain rfl := List.mem_singleton.mp hx
                  have h9 := own_keep HO5.out (fun b cur hb => hkeep b cur 56 (by decide) hb)
                  simpa using h9⟩
              have HX7 := Aside0.mk ((hkeep _ _ 31 (by decide) HX5.out).trans HX5.out)
              have HO7 : Aside0 (w1.ownsRow w.heap.size 51 3 (.slice A1' (xs ++ [((⟨sp0.tr, (sp0 :: sps).map f⟩ : Tr), Value.slice (some ⟨r, 0, none⟩) (sps.length + 1) cp0)]).length cp1) (xs ++ [((⟨sp0.tr, (sp0 :: sps).map f⟩ : Tr), Value.slice (some ⟨r, 0, none⟩) (sps.length + 1) cp0)]).length (trc (xs ++ [((⟨sp0.tr, (sp0 :: sps).map f⟩ : Tr), Value.slice (some ⟨r, 0, none⟩) (sps.length + 1) cp0)]))) := ⟨by
                rw [trc_snoc, List.length_append]
                exact HW.out⟩
              have HM7 : Aside0 ((xs ++ [((⟨sp0.tr, (sp0 :: sps).map f⟩ : Tr), Value.slice (some ⟨r, 0, none⟩) (sps.length + 1) cp0)]).map (·.1) = acc ++ [⟨sp0.tr, (sp0 :: sps).map f⟩]) := ⟨by
                rw [List.map_append, HM.out]
                rfl⟩
              go_roundg i
              case measure => omega
              case rel => exact ⟨i, kk + 1, _, _, cp1, A1', by rw [List.length_append]; rfl, by go_num, Nat.le_refl _, HI1, by omega, HK', HM7, HO7, HT7, HB6, HX7⟩
theorem TsOut.base {b b' : Nat} {w' : World} {ts : List Tr} {v : Value} (h : TsOut b w' ts v) (hb : b' ≤ b) : TsOut b' w' ts v := by
  obtain ⟨xs, h1, h2, h3⟩ := h
  exact ⟨xs, h1, own_base h2 hb, fun x hx => own_base (h3 x hx) hb⟩
set_option maxHeartbeats 4000000 in
theorem Traces_ok (n k : Nat) (c : Cfg) (p : CfgAt) (w : World) (ts : List Tr) (hR : CfgR w p c) (hck : ckAll k c = some 0) (h : tracesV n c (shiftSp c.off) = some ts) :
    Calls Try.prog 13 #[c.val p] w fun e w' => ∃ v, e = .returned (.tuple #[v, .int .i64 0]) ∧ TsOut w.heap.size w' ts v ∧ Below w.heap.size w w' := by
  have HR := Aside0.mk hR
  have HCK := Aside0.mk hck
  have HA := Aside0.mk h
  clear hR hck h
  obtain ⟨A1, c1, A2, c2, A3, c3, A4, c4⟩ := p
  go_enter Try.func13, Try.ntmps13
  go_wp2_with fail
  have hb := below_alloc (Below.refl w.heap.size w) (.cells (c.cells ⟨A1, c1, A2, c2, A3, c3, A4, c4⟩) 31)
  have hr1 := HR.out.below hb
  have hn := blk_new w (.cells (c.cells ⟨A1, c1, A2, c2, A3, c3, A4, c4⟩) 31)
  have hsh := traces_shows (w.alloc (.cells (c.cells ⟨A1, c1, A2, c2, A3, c3, A4, c4⟩) 31)) c ⟨A1, c1, A2, c2, A3, c3, A4, c4⟩ w.heap.size hr1
  refine (traces_calls n k c ⟨A1, c1, A2, c2, A3, c3, A4, c4⟩ _ 37 #[pv w.heap.size] (shiftSp c.off) ts hr1 ⟨hsh.1, fun W r cp b j l hj hok hB hbb hbW ho => hsh.2 W r cp b j l hj (blk_below hn hok) hB hbb hbW ho⟩ HCK.out HA.out).mono ?_
  rintro e w1 ⟨v, rfl, ht, hb1⟩
  have HT := Aside0.mk (ht.base hb.size)
  have HB := Aside0.mk (below_step hb hb1)
  clear ht hb1 hsh hn hr1 hb
  go_wp2_with fail
  refine bodyPost_ret (results_tmp2 rfl _ _ _) rfl ?_
  exact ⟨v, by rfl, HT.out, HB.out⟩
set_option maxHeartbeats 4000000 in
theorem Truth_ok (n k : Nat) (c : Cfg) (p : CfgAt) (w : World) (ts : List Tr) (hR : CfgR w p c) (hck : ckAll k c = some 0) (h : tracesV n c id = some ts) :
    Calls Try.prog 16 #[c.val p] w fun e w' => ∃ v, e = .returned (.tuple #[v, .int .i64 0]) ∧ TsOut w.heap.size w' ts v ∧ Below w.heap.size w w' := by
  have HR := Aside0.mk hR
  have HCK := Aside0.mk hck
  have HA := Aside0.mk h
  clear hR hck h
  obtain ⟨A1, c1, A2, c2, A3, c3, A4, c4⟩ := p
  go_enter Try.func16, Try.ntmps16
  go_wp2_with fail
  have hb := below_alloc (Below.refl w.heap.size w) (.cells (c.cells ⟨A1, c1, A2, c2, A3, c3, A4, c4⟩) 31)
  have hr1 := HR.out.below hb
  have hsh := truth_shows (w.alloc (.cells (c.cells ⟨A1, c1, A2, c2, A3, c3, A4, c4⟩) 31)).heap.size (w.alloc (.cells (c.cells ⟨A1, c1, A2, c2, A3, c3, A4, c4⟩) 31))
  refine (traces_calls n k c ⟨A1, c1, A2, c2, A3, c3, A4, c4⟩ _ 41 #[] id ts hr1 ⟨hsh.1, fun W r cp b j l hj _ hB hbb hbW ho => hsh.2 W r cp b j l hj trivial hB hbb hbW ho⟩ HCK.out HA.out).mono ?_
  rintro e w1 ⟨v, rfl, ht, hb1⟩
  have HT := Aside0.mk (ht.base hb.size)
  have HB := Aside0.mk (below_step hb hb1)
  clear ht hb1 hsh hr1 hb
  go_wp2_with fail
  refine bodyPost_ret (results_tmp2 rfl _ _ _) rfl ?_
  exact ⟨v, by rfl, HT.out, HB.out⟩
end Go.Proofs.Ytdadnapfecmmdaa.P
namespace Go.Proofs.Ytdadnapfecmmdaa.P
open Go.RowKit Go.Proofs.YtdadnapfecmmdaaW.PrintWords Go.Proofs.YtdadnapfecmmdaaW.PrintLast Go.Proofs.YtdadnapfecmmdaaW.PrintMore
attribute [local go_sem] max2_int min2_int max_two min_two max_three min_three max_four min_four   -- for this text's walks alone
set_option linter.unusedVariables false
set_option linter.unusedSimpArgs false
def sleuthlaw55_example.f  : Option (Int × (List (S64)) × (List (S91)) × (List (S100)) × (List (S61)) × Int × Int × Int × Int × Int × Int × Int) := some (0, (([(⟨(⟨#[119, 101, 98]⟩ : ByteArray), 1, 10, 0, 0, (([(⟨#[100, 98]⟩ : ByteArray)] : List ByteArray))⟩ : S64), (⟨(⟨#[100, 98]⟩ : ByteArray), 2, 4, 0, 0, ([] : List ByteArray)⟩ : S64)] : List (S64))), (([(⟨1, 5⟩ : S91), (⟨2, 0⟩ : S91)] : List (S91))), ([] : List (S100)), ([] : List (S61)), 3, 4, 1, 0, 2, 0, 0)
set_option maxHeartbeats 8000000 in
set_option maxRecDepth 100000 in
theorem sleuthlaw55_example.calls  (r1 : Int) (r2 : List (S64)) (r3 : List (S91)) (r4 : List (S100)) (r5 : List (S61)) (r6 : Int) (r7 : Int) (r8 : Int) (r9 : Int) (r10 : Int) (r11 : Int) (r12 : Int) (w : World) (h : sleuthlaw55_example.f  = some (r1, r2, r3, r4, r5, r6, r7, r8, r9, r10, r11, r12)) :
    Calls Try.prog 32 #[] w fun e w' => ∃ v1_ v2_ v3_ v4_ : Value, e = .returned (.agg #[.int .i64 r1, v1_, v2_, v3_, v4_, .int .i64 r6, .int .i64 r7, .int .i64 r8, .int .i64 r9, .int .i64 r10, .int .i64 r11, .int .i64 r12]) ∧ Kd.N k64 64 w' w.heap.size (fun k_ => (w.heap.size ≤ k_) ∧ some k_ ≠ (v2_ : Value).ownBlock ∧ some k_ ≠ (v3_ : Value).ownBlock ∧ some k_ ≠ (v4_ : Value).ownBlock) v1_ r2 ∧ Kd.R k91 91 w' w.heap.size (fun k_ => (w.heap.size ≤ k_)) v2_ r3 ∧ Kd.R k100 100 w' w.heap.size (fun k_ => (w.heap.size ≤ k_)) v3_ r4 ∧ Kd.R k61 61 w' w.heap.size (fun k_ => (w.heap.size ≤ k_)) v4_ r5 ∧ Below w.heap.size w w' := by
  have hu31 := Try.underlying31
  have hu64 := Try.underlying64
  have hu91 := Try.underlying91
  have hu29 := Try.underlying29
  have HB := Aside0.mk (Below.refl w.heap.size w)
  have H : (some (0, (([(⟨(⟨#[119, 101, 98]⟩ : ByteArray), 1, 10, 0, 0, (([(⟨#[100, 98]⟩ : ByteArray)] : List ByteArray))⟩ : S64), (⟨(⟨#[100, 98]⟩ : ByteArray), 2, 4, 0, 0, ([] : List ByteArray)⟩ : S64)] : List (S64))), (([(⟨1, 5⟩ : S91), (⟨2, 0⟩ : S91)] : List (S91))), ([] : List (S100)), ([] : List (S61)), 3, 4, 1, 0, 2, 0, 0)) = some (r1, r2, r3, r4, r5, r6, r7, r8, r9, r10, r11, r12) := h
  clear h
  obtain ⟨y102, hy102⟩ : ∃ y_ : List ByteArray, y_ = (([(⟨#[100, 98]⟩ : ByteArray)] : List ByteArray)) := ⟨_, rfl⟩
  replace H : (some (0, (([(⟨(⟨#[119, 101, 98]⟩ : ByteArray), 1, 10, 0, 0, y102⟩ : S64), (⟨(⟨#[100, 98]⟩ : ByteArray), 2, 4, 0, 0, ([] : List ByteArray)⟩ : S64)] : List (S64))), (([(⟨1, 5⟩ : S91), (⟨2, 0⟩ : S91)] : List (S91))), ([] : List (S100)), ([] : List (S61)), 3, 4, 1, 0, 2, 0, 0)) = some (r1, r2, r3, r4, r5, r6, r7, r8, r9, r10, r11, r12) := by first | (rw [hy102]; with_reducible exact H) | (have H2_ := (Option.bind_some _ _).symm.trans H; rw [hy102]; with_reducible exact H2_) | (have H2_ := (Option.bind_some _ _).symm.trans H; with_reducible exact H2_) | with_reducible exact H | (rw [hy102]; exact H) | exact H
  have Ny102 := Aside0.mk hy102
  clear hy102
  obtain ⟨y105, hy105⟩ : ∃ y_ : List (S64), y_ = (([(⟨(⟨#[119, 101, 98]⟩ : ByteArray), 1, 10, 0, 0, y102⟩ : S64), (⟨(⟨#[100, 98]⟩ : ByteArray), 2, 4, 0, 0, ([] : List ByteArray)⟩ : S64)] : List (S64))) := ⟨_, rfl⟩
  replace H : (some (0, y105, (([(⟨1, 5⟩ : S91), (⟨2, 0⟩ : S91)] : List (S91))), ([] : List (S100)), ([] : List (S61)), 3, 4, 1, 0, 2, 0, 0)) = some (r1, r2, r3, r4, r5, r6, r7, r8, r9, r10, r11, r12) := by first | (rw [hy105]; with_reducible exact H) | (have H2_ := (Option.bind_some _ _).symm.trans H; rw [hy105]; with_reducible exact H2_) | (have H2_ := (Option.bind_some _ _).symm.trans H; with_reducible exact H2_) | with_reducible exact H | (rw [hy105]; exact H) | exact H
  have Ny105 := Aside0.mk hy105
  clear hy105
  obtain ⟨y108, hy108⟩ : ∃ y_ : List (S91), y_ = (([(⟨1, 5⟩ : S91), (⟨2, 0⟩ : S91)] : List (S91))) := ⟨_, rfl⟩
  replace H : (some (0, y105, y108, ([] : List (S100)), ([] : List (S61)), 3, 4, 1, 0, 2, 0, 0)) = some (r1, r2, r3, r4, r5, r6, r7, r8, r9, r10, r11, r12) := by first | (rw [hy108]; with_reducible exact H) | (have H2_ := (Option.bind_some _ _).symm.trans H; rw [hy108]; with_reducible exact H2_) | (have H2_ := (Option.bind_some _ _).symm.trans H; with_reducible exact H2_) | with_reducible exact H | (rw [hy108]; exact H) | exact H
  have Ny108 := Aside0.mk hy108
  clear hy108
  simp only [Option.some.injEq, Prod.mk.injEq] at H
  obtain ⟨rfl, rfl, rfl, rfl, rfl, rfl, rfl, rfl, rfl, rfl, rfl, rfl⟩ := H
  go_enter Try.func32, Try.ntmps32
  go_wp2_with (first | ((with_reducible refine gate_dst (N := 0) rfl ?_); refine box_event ?hg (N := 0) ?hd (cs := #[.int .i64 0, .slice none 0 0, .slice none 0 0, .slice none 0 0, .slice none 0 0, .int .i64 0, .int .i64 0, .int .i64 0, .int .i64 0, .int .i64 0, .int .i64 0, .int .i64 0]) (t := 31) ?hr ?_; (case hd => rfl); (case hg => rfl); (case hr => first | (go_simp; done) | (go_simp; rfl)); intro gb101 hg w1 hbox hb; have n0_ := Aside0.mk (below_step (by repeat (first | (with_reducible first | exact HB.out | apply below_alloc | apply pw_below_drewN | apply below_drew1) | exact HB.out)) hb); have n1_ := Aside0.mk (hbox); have n2_ := Aside0.mk ((by rw [hg]; exact (below_size (by repeat (first | (with_reducible first | exact HB.out | apply below_alloc | apply pw_below_drewN | apply below_drew1) | exact HB.out))) : w.heap.size ≤ gb101)); have n3_ := Aside0.mk ((by rw [hg]; exact (below_size (by repeat (first | (with_reducible first | exact HB.out | apply below_alloc | apply pw_below_drewN | apply below_drew1) | exact HB.out))) : w.heap.size ≤ gb101)); clear HB; have HB := n0_; have BK101 := n1_; have GW101 := n2_; have GE101 := n3_; clear n0_ n1_ n2_ n3_; clear hb hbox hg) | ((with_reducible refine gate_dst (N := 1) rfl ?_); refine Kd.R_lit Kd.string _ 9 ?hg (N := 1) ?hd (xs := ([(⟨#[100, 98]⟩ : ByteArray)] : List ByteArray)) (inner := [.string (⟨#[100, 98]⟩ : ByteArray)]) (ok := fun _ => True) (okp := fun _ => True) ?hr ?hp (fun _ hk => hk) trivial (Below.refl _ _) (Nat.le_refl _) (by simp) ?_; (case hd => rfl); (case hg => rfl); (case hr => first | (go_simp; done) | (go_simp; rfl)); (case hp => exact (Reps.one (show Kd.M Kd.string _ _ _ (⟨#[100, 98]⟩ : ByteArray) [.string (⟨#[100, 98]⟩ : ByteArray)] from rfl) (Reps.none _ _))); intro v103 w2 ho3 hb hg_ hnew_; clear hg_ hnew_; (first | rw [← Ny102.out] at ho3 | (simp only [Int.reduceToNat] at ho3; rw [← Ny102.out] at ho3)); have n0_ := Aside0.mk (Kd.R_lower (Kd.R_newM (M := fun k_ => (w.heap.size ≤ k_)) ho3 (below_size (by repeat (first | (with_reducible first | exact HB.out | apply below_alloc | apply pw_below_drewN | apply below_drew1 | refine below_set ?_ GE101.out) | exact HB.out))) (fun k_ h_ => h_)) (below_size (by repeat (first | (with_reducible first | exact HB.out | apply below_alloc | apply pw_below_drewN | apply below_drew1 | refine below_set ?_ GE101.out) | exact HB.out)))); have n1_ := Aside0.mk (blk_below (g := gb101) (o := .cells #[.int .i64 0, .slice none 0 0, .slice none 0 0, .slice none 0 0, .slice none 0 0, .int .i64 0, .int .i64 0, .int .i64 0, .int .i64 0, .int .i64 0, .int .i64 0, .int .i64 0] 31 (0, 0)) (by (with_reducible repeat (first | refine blk_drewN ?_ _ | refine blk_drew ?_ | refine blk_alloc ?_ _)); exact BK101.out) hb); have n2_ := Aside0.mk (below_step (by repeat (first | (with_reducible first | exact HB.out | apply below_alloc | apply pw_below_drewN | apply below_drew1 | refine below_set ?_ GE101.out) | exact HB.out)) hb); clear BK101; clear HB; have HO104 := n0_; have BK101 := n1_; have HB := n2_; clear n0_ n1_ n2_; clear hb ho3; obtain ⟨Ao4, co4, eo4⟩ := Kd.R_slice HO104.out; subst eo4) | ((with_reducible refine gate_dst (N := 4) rfl ?_); refine Kd.N_lit k64 _ 64 ?hg (N' := 4) ?hd (xs := ([(⟨(⟨#[119, 101, 98]⟩ : ByteArray), 1, 10, 0, 0, y102⟩ : S64), (⟨(⟨#[100, 98]⟩ : ByteArray), 2, 4, 0, 0, ([] : List ByteArray)⟩ : S64)] : List (S64))) (inner := [.string (⟨#[119, 101, 98]⟩ : ByteArray), .int .i64 1, .int .i64 10, .int .i64 0, .int .i64 0, .slice Ao4 y102.length co4, .string (⟨#[100, 98]⟩ : ByteArray), .int .i64 2, .int .i64 4, .int .i64 0, .int .i64 0, .slice none 0 0]) (ok := (fun k_ => (w.heap.size ≤ k_) ∧ k_ ≠ gb101)) (okp := (fun k_ => (w.heap.size ≤ k_) ∧ k_ ≠ gb101)) ?hr ?hp (fun _ hk => hk) ((show ∀ k_, w2.heap.size ≤ k_ → (fun k_ => (w.heap.size ≤ k_) ∧ k_ ≠ gb101) k_ from fun k_ hk => ⟨(Nat.le_trans (below_size (by repeat (first | (with_reducible first | exact HB.out | apply below_alloc | apply pw_below_drewN | apply below_drew1 | refine below_set ?_ GE101.out) | exact HB.out))) hk), Kd.freshB (g := gb101) (o := .cells #[.int .i64 0, .slice none 0 0, .slice none 0 0, .slice none 0 0, .slice none 0 0, .int .i64 0, .int .i64 0, .int .i64 0, .int .i64 0, .int .i64 0, .int .i64 0, .int .i64 0] 31 (0, 0)) (by (with_reducible repeat (first | refine blk_drewN ?_ _ | refine blk_drew ?_ | refine blk_alloc ?_ _)); exact BK101.out) k_ hk⟩) _ (Nat.le_refl _)) (Below.refl _ _) (Nat.le_refl _) (by simp) ?_; (case hd => rfl); (case hg => rfl); (case hr => first | (go_simp; done) | (go_simp; rfl)); (case hp => exact (Reps.c6 (show Kd.FK k64 _ _ (⟨(⟨#[119, 101, 98]⟩ : ByteArray), 1, 10, 0, 0, y102⟩ : S64) [.string (⟨#[119, 101, 98]⟩ : ByteArray), .int .i64 1, .int .i64 10, .int .i64 0, .int .i64 0, .slice Ao4 y102.length co4] from (k64_mkF _ _ (⟨(⟨#[119, 101, 98]⟩ : ByteArray), 1, 10, 0, 0, y102⟩ : S64) (Kd.R_reads' (Kd.R_mono (ok' := (fun k_ => (w.heap.size ≤ k_) ∧ k_ ≠ gb101)) (Kd.R_types (HO104.out) BK101.out (by decide)) (fun k_ hk => ⟨hk.1.1, hk.2⟩))).2.1 (Kd.R_F (Kd.R_mono (ok' := (fun k_ => (w.heap.size ≤ k_) ∧ k_ ≠ gb101)) (Kd.R_types (HO104.out) BK101.out (by decide)) (fun k_ hk => ⟨hk.1.1, hk.2⟩))))) (Reps.c6 (show Kd.FK k64 _ _ (⟨(⟨#[100, 98]⟩ : ByteArray), 2, 4, 0, 0, ([] : List ByteArray)⟩ : S64) [.string (⟨#[100, 98]⟩ : ByteArray), .int .i64 2, .int .i64 4, .int .i64 0, .int .i64 0, .slice none 0 0] from (k64_mkF _ _ (⟨(⟨#[100, 98]⟩ : ByteArray), 2, 4, 0, 0, ([] : List ByteArray)⟩ : S64) (Nat.le_refl _) (Kd.F_nil _ _ _))) (Reps.none _ _)))); intro v106 w5 ho6 hb hg_ hnew_; clear hg_ hnew_; (first | rw [← Ny105.out] at ho6 | (simp only [Int.reduceToNat] at ho6; rw [← Ny105.out] at ho6)); have n0_ := Aside0.mk (Kd.N_lower ho6 (below_size (by repeat (first | (with_reducible first | exact HB.out | apply below_alloc | apply pw_below_drewN | apply below_drew1 | refine below_set ?_ GE101.out) | exact HB.out)))); have n1_ := Aside0.mk (blk_below (g := gb101) (o := .cells #[.int .i64 0, .slice none 0 0, .slice none 0 0, .slice none 0 0, .slice none 0 0, .int .i64 0, .int .i64 0, .int .i64 0, .int .i64 0, .int .i64 0, .int .i64 0, .int .i64 0] 31 (0, 0)) (by (with_reducible repeat (first | refine blk_drewN ?_ _ | refine blk_drew ?_ | refine blk_alloc ?_ _)); exact BK101.out) hb); have n2_ := Aside0.mk (below_step (by repeat (first | (with_reducible first | exact HB.out | apply below_alloc | apply pw_below_drewN | apply below_drew1 | refine below_set ?_ GE101.out) | exact HB.out)) hb); clear BK101; clear HB; clear HO104; have HO107 := n0_; have BK101 := n1_; have HB := n2_; clear n0_ n1_ n2_; clear hb ho6) | ((with_reducible refine gate_dst (N := 7) rfl ?_); refine Kd.R_lit k91 _ 91 ?hg (N := 7) ?hd (xs := ([(⟨1, 5⟩ : S91), (⟨2, 0⟩ : S91)] : List (S91))) (inner := [.int .i64 1, .int .i64 5, .int .i64 2, .int .i64 0]) (ok := fun _ => True) (okp := fun _ => True) ?hr ?hp (fun _ hk => hk) trivial (Below.refl _ _) (Nat.le_refl _) (by simp) ?_; (case hd => rfl); (case hg => rfl); (case hr => first | (go_simp; done) | (go_simp; rfl)); (case hp => exact (Reps.c2 (show Kd.M k91 _ _ _ (⟨1, 5⟩ : S91) [.int .i64 1, .int .i64 5] from (k91_mkM _ _ _ (⟨1, 5⟩ : S91) )) (Reps.c2 (show Kd.M k91 _ _ _ (⟨2, 0⟩ : S91) [.int .i64 2, .int .i64 0] from (k91_mkM _ _ _ (⟨2, 0⟩ : S91) )) (Reps.none _ _)))); intro v109 w7 ho8 hb hg_ hnew_; clear hg_ hnew_; (first | rw [← Ny108.out] at ho8 | (simp only [Int.reduceToNat] at ho8; rw [← Ny108.out] at ho8)); have n0_ := Aside0.mk (Kd.N_elder' (by (with_reducible repeat (first | apply Kd.N_alloc | apply Kd.N_drewN | apply Kd.N_drew)); exact HO107.out) (Kd.R_base ho8) hb); have n1_ := Aside0.mk (Kd.R_lower (Kd.R_newM (M := fun k_ => (w.heap.size ≤ k_)) ho8 (below_size (by repeat (first | (with_reducible first | exact HB.out | apply below_alloc | apply pw_below_drewN | apply below_drew1 | refine below_set ?_ GE101.out) | exact HB.out))) (fun k_ h_ => h_)) (below_size (by repeat (first | (with_reducible first | exact HB.out | apply below_alloc | apply pw_below_drewN | apply below_drew1 | refine below_set ?_ GE101.out) | exact HB.out)))); have n2_ := Aside0.mk (blk_below (g := gb101) (o := .cells #[.int .i64 0, .slice none 0 0, .slice none 0 0, .slice none 0 0, .slice none 0 0, .int .i64 0, .int .i64 0, .int .i64 0, .int .i64 0, .int .i64 0, .int .i64 0, .int .i64 0] 31 (0, 0)) (by (with_reducible repeat (first | refine blk_drewN ?_ _ | refine blk_drew ?_ | refine blk_alloc ?_ _)); exact BK101.out) hb); have n3_ := Aside0.mk (below_step (by repeat (first | (with_reducible first | exact HB.out | apply below_alloc | apply pw_below_drewN | apply below_drew1 | refine below_set ?_ GE101.out) | exact HB.out)) hb); clear HO107; clear BK101; clear HB; have HO107 := n0_; have HO110 := n1_; have BK101 := n2_; have HB := n3_; clear n0_ n1_ n2_ n3_; clear hb ho8; obtain ⟨Ao9, co9, eo9⟩ := Kd.R_slice HO110.out; subst eo9; obtain ⟨Ao10, co10, eo10⟩ := Kd.N_slice HO107.out; subst eo10; have hcz11_0 : w7.cell? ⟨gb101, 0, none⟩ = some (.int .i64 0) := (blk_cell BK101.out 0).trans rfl; have hcz11_1 : w7.cell? ⟨gb101, 1, none⟩ = some (.slice none 0 0) := (blk_cell BK101.out 1).trans rfl; have hcz11_2 : w7.cell? ⟨gb101, 2, none⟩ = some (.slice none 0 0) := (blk_cell BK101.out 2).trans rfl; have hcz11_3 : w7.cell? ⟨gb101, 3, none⟩ = some (.slice none 0 0) := (blk_cell BK101.out 3).trans rfl; have hcz11_4 : w7.cell? ⟨gb101, 4, none⟩ = some (.slice none 0 0) := (blk_cell BK101.out 4).trans rfl; have hcz11_5 : w7.cell? ⟨gb101, 5, none⟩ = some (.int .i64 0) := (blk_cell BK101.out 5).trans rfl; have hcz11_6 : w7.cell? ⟨gb101, 6, none⟩ = some (.int .i64 0) := (blk_cell BK101.out 6).trans rfl; have hcz11_7 : w7.cell? ⟨gb101, 7, none⟩ = some (.int .i64 0) := (blk_cell BK101.out 7).trans rfl; have hcz11_8 : w7.cell? ⟨gb101, 8, none⟩ = some (.int .i64 0) := (blk_cell BK101.out 8).trans rfl; have hcz11_9 : w7.cell? ⟨gb101, 9, none⟩ = some (.int .i64 0) := (blk_cell BK101.out 9).trans rfl; have hcz11_10 : w7.cell? ⟨gb101, 10, none⟩ = some (.int .i64 0) := (blk_cell BK101.out 10).trans rfl; have hcz11_11 : w7.cell? ⟨gb101, 11, none⟩ = some (.int .i64 0) := (blk_cell BK101.out 11).trans rfl; have hfz11_0 := blk_frozen BK101.out 0; have hfz11_1 := blk_frozen BK101.out 1; have hfz11_2 := blk_frozen BK101.out 2; have hfz11_3 := blk_frozen BK101.out 3; have hfz11_4 := blk_frozen BK101.out 4; have hfz11_5 := blk_frozen BK101.out 5; have hfz11_6 := blk_frozen BK101.out 6; have hfz11_7 := blk_frozen BK101.out 7; have hfz11_8 := blk_frozen BK101.out 8; have hfz11_9 := blk_frozen BK101.out 9; have hfz11_10 := blk_frozen BK101.out 10; have hfz11_11 := blk_frozen BK101.out 11))
  refine bodyPost_ret (results_cell_row rfl _ _ gb101 31 #[.int .i64 0, .slice Ao10 y105.length co10, .slice Ao9 y108.length co9, .slice none 0 0, .slice none 0 0, .int .i64 3, .int .i64 4, .int .i64 1, .int .i64 0, .int .i64 2, .int .i64 0, .int .i64 0] (0, 0) _ rfl (by (with_reducible repeat (first | refine blk_drewN ?_ _ | refine blk_drew ?_ | refine blk_alloc ?_ _)); refine blk_put (cs := #[.int .i64 0, .slice Ao10 y105.length co10, .slice Ao9 y108.length co9, .slice none 0 0, .slice none 0 0, .int .i64 3, .int .i64 4, .int .i64 1, .int .i64 0, .int .i64 2, .int .i64 0, .int .i64 0]) ?_ 11 _ rfl; (with_reducible repeat (first | refine blk_drewN ?_ _ | refine blk_drew ?_ | refine blk_alloc ?_ _)); refine blk_put (cs := #[.int .i64 0, .slice Ao10 y105.length co10, .slice Ao9 y108.length co9, .slice none 0 0, .slice none 0 0, .int .i64 3, .int .i64 4, .int .i64 1, .int .i64 0, .int .i64 2, .int .i64 0, .int .i64 0]) ?_ 10 _ rfl; (with_reducible repeat (first | refine blk_drewN ?_ _ | refine blk_drew ?_ | refine blk_alloc ?_ _)); refine blk_put (cs := #[.int .i64 0, .slice Ao10 y105.length co10, .slice Ao9 y108.length co9, .slice none 0 0, .slice none 0 0, .int .i64 3, .int .i64 4, .int .i64 1, .int .i64 0, .int .i64 0, .int .i64 0, .int .i64 0]) ?_ 9 _ rfl; (with_reducible repeat (first | refine blk_drewN ?_ _ | refine blk_drew ?_ | refine blk_alloc ?_ _)); refine blk_put (cs := #[.int .i64 0, .slice Ao10 y105.length co10, .slice Ao9 y108.length co9, .slice none 0 0, .slice none 0 0, .int .i64 3, .int .i64 4, .int .i64 1, .int .i64 0, .int .i64 0, .int .i64 0, .int .i64 0]) ?_ 8 _ rfl; (with_reducible repeat (first | refine blk_drewN ?_ _ | refine blk_drew ?_ | refine blk_alloc ?_ _)); refine blk_put (cs := #[.int .i64 0, .slice Ao10 y105.length co10, .slice Ao9 y108.length co9, .slice none 0 0, .slice none 0 0, .int .i64 3, .int .i64 4, .int .i64 0, .int .i64 0, .int .i64 0, .int .i64 0, .int .i64 0]) ?_ 7 _ rfl; (with_reducible repeat (first | refine blk_drewN ?_ _ | refine blk_drew ?_ | refine blk_alloc ?_ _)); refine blk_put (cs := #[.int .i64 0, .slice Ao10 y105.length co10, .slice Ao9 y108.length co9, .slice none 0 0, .slice none 0 0, .int .i64 3, .int .i64 0, .int .i64 0, .int .i64 0, .int .i64 0, .int .i64 0, .int .i64 0]) ?_ 6 _ rfl; (with_reducible repeat (first | refine blk_drewN ?_ _ | refine blk_drew ?_ | refine blk_alloc ?_ _)); refine blk_put (cs := #[.int .i64 0, .slice Ao10 y105.length co10, .slice Ao9 y108.length co9, .slice none 0 0, .slice none 0 0, .int .i64 0, .int .i64 0, .int .i64 0, .int .i64 0, .int .i64 0, .int .i64 0, .int .i64 0]) ?_ 5 _ rfl; (with_reducible repeat (first | refine blk_drewN ?_ _ | refine blk_drew ?_ | refine blk_alloc ?_ _)); refine blk_put (cs := #[.int .i64 0, .slice Ao10 y105.length co10, .slice Ao9 y108.length co9, .slice none 0 0, .slice none 0 0, .int .i64 0, .int .i64 0, .int .i64 0, .int .i64 0, .int .i64 0, .int .i64 0, .int .i64 0]) ?_ 4 _ rfl; (with_reducible repeat (first | refine blk_drewN ?_ _ | refine blk_drew ?_ | refine blk_alloc ?_ _)); refine blk_put (cs := #[.int .i64 0, .slice Ao10 y105.length co10, .slice Ao9 y108.length co9, .slice none 0 0, .slice none 0 0, .int .i64 0, .int .i64 0, .int .i64 0, .int .i64 0, .int .i64 0, .int .i64 0, .int .i64 0]) ?_ 3 _ rfl; (with_reducible repeat (first | refine blk_drewN ?_ _ | refine blk_drew ?_ | refine blk_alloc ?_ _)); refine blk_put (cs := #[.int .i64 0, .slice Ao10 y105.length co10, .slice none 0 0, .slice none 0 0, .slice none 0 0, .int .i64 0, .int .i64 0, .int .i64 0, .int .i64 0, .int .i64 0, .int .i64 0, .int .i64 0]) ?_ 2 _ rfl; (with_reducible repeat (first | refine blk_drewN ?_ _ | refine blk_drew ?_ | refine blk_alloc ?_ _)); refine blk_put (cs := #[.int .i64 0, .slice none 0 0, .slice none 0 0, .slice none 0 0, .slice none 0 0, .int .i64 0, .int .i64 0, .int .i64 0, .int .i64 0, .int .i64 0, .int .i64 0, .int .i64 0]) ?_ 1 _ rfl; (with_reducible repeat (first | refine blk_drewN ?_ _ | refine blk_drew ?_ | refine blk_alloc ?_ _)); refine blk_put (cs := #[.int .i64 0, .slice none 0 0, .slice none 0 0, .slice none 0 0, .slice none 0 0, .int .i64 0, .int .i64 0, .int .i64 0, .int .i64 0, .int .i64 0, .int .i64 0, .int .i64 0]) ?_ 0 _ rfl; (with_reducible repeat (first | refine blk_drewN ?_ _ | refine blk_drew ?_ | refine blk_alloc ?_ _)); exact BK101.out) Try.underlying31 rfl (by kernel_rfl)) rfl ?_
  exact ⟨_, _, _, _, by first | rfl | (simp [errW_none, errW_some] <;> rfl) | (simp [*, errW_none, errW_some] <;> rfl), by (with_reducible repeat (first | apply Kd.N_alloc | apply Kd.N_drewN | apply Kd.N_drew)); exact Kd.N_mono (Kd.N_far (p := ⟨gb101, 11, none⟩) (Kd.N_far (p := ⟨gb101, 10, none⟩) (Kd.N_far (p := ⟨gb101, 9, none⟩) (Kd.N_far (p := ⟨gb101, 8, none⟩) (Kd.N_far (p := ⟨gb101, 7, none⟩) (Kd.N_far (p := ⟨gb101, 6, none⟩) (Kd.N_far (p := ⟨gb101, 5, none⟩) (Kd.N_far (p := ⟨gb101, 4, none⟩) (Kd.N_far (p := ⟨gb101, 3, none⟩) (Kd.N_far (p := ⟨gb101, 2, none⟩) (Kd.N_far (p := ⟨gb101, 1, none⟩) (Kd.N_far (p := ⟨gb101, 0, none⟩) (Kd.N_mono HO107.out (fun k_ hk => (⟨hk, hk.1.2⟩ : _ ∧ k_ ≠ gb101))) (fun _ hk => hk.2) (.int .i64 0)) (fun _ hk => hk.2) (.slice Ao10 y105.length co10)) (fun _ hk => hk.2) (.slice Ao9 y108.length co9)) (fun _ hk => hk.2) (.slice none 0 0)) (fun _ hk => hk.2) (.slice none 0 0)) (fun _ hk => hk.2) (.int .i64 3)) (fun _ hk => hk.2) (.int .i64 4)) (fun _ hk => hk.2) (.int .i64 1)) (fun _ hk => hk.2) (.int .i64 0)) (fun _ hk => hk.2) (.int .i64 2)) (fun _ hk => hk.2) (.int .i64 0)) (fun _ hk => hk.2) (.int .i64 0)) (fun _ hk => ⟨hk.1.1.1, ⟨hk.1.2, ⟨(by simp [Value.ownBlock]), (by simp [Value.ownBlock])⟩⟩⟩), by (with_reducible repeat (first | apply Kd.R_alloc | apply Kd.R_drewN | apply Kd.R_drew)); exact Kd.R_mono (Kd.R_far (p := ⟨gb101, 11, none⟩) (Kd.R_far (p := ⟨gb101, 10, none⟩) (Kd.R_far (p := ⟨gb101, 9, none⟩) (Kd.R_far (p := ⟨gb101, 8, none⟩) (Kd.R_far (p := ⟨gb101, 7, none⟩) (Kd.R_far (p := ⟨gb101, 6, none⟩) (Kd.R_far (p := ⟨gb101, 5, none⟩) (Kd.R_far (p := ⟨gb101, 4, none⟩) (Kd.R_far (p := ⟨gb101, 3, none⟩) (Kd.R_far (p := ⟨gb101, 2, none⟩) (Kd.R_far (p := ⟨gb101, 1, none⟩) (Kd.R_far (p := ⟨gb101, 0, none⟩) (Kd.R_types HO110.out BK101.out (by decide)) (fun _ hk => hk.2) (.int .i64 0)) (fun _ hk => hk.2) (.slice Ao10 y105.length co10)) (fun _ hk => hk.2) (.slice Ao9 y108.length co9)) (fun _ hk => hk.2) (.slice none 0 0)) (fun _ hk => hk.2) (.slice none 0 0)) (fun _ hk => hk.2) (.int .i64 3)) (fun _ hk => hk.2) (.int .i64 4)) (fun _ hk => hk.2) (.int .i64 1)) (fun _ hk => hk.2) (.int .i64 0)) (fun _ hk => hk.2) (.int .i64 2)) (fun _ hk => hk.2) (.int .i64 0)) (fun _ hk => hk.2) (.int .i64 0)) (fun _ hk => hk.1.1), by first | exact Kd.R_nil _ _ _ _ _ | exact Kd.N_nil _ _ _ _ _ | exact Kd.V_nil _ _ _ _ _ | exact Kd.Q_nil _ _ _ _ _ | exact Kd.S_nil _ _ _ _ _, by first | exact Kd.R_nil _ _ _ _ _ | exact Kd.N_nil _ _ _ _ _ | exact Kd.V_nil _ _ _ _ _ | exact Kd.Q_nil _ _ _ _ _ | exact Kd.S_nil _ _ _ _ _, by repeat (first | (with_reducible first | exact HB.out | apply below_alloc | apply pw_below_drewN | apply below_drew1 | refine below_set ?_ GE101.out) | exact HB.out)⟩
end Go.Proofs.Ytdadnapfecmmdaa.P
namespace Go.Proofs.Ytdadnapfecmmdaa.P
set_option linter.unusedVariables false
set_option linter.unusedSimpArgs false
open Go.RowKit Go.Proofs.YtdadnapfecmmdaaW.PrintWords Go.Proofs.YtdadnapfecmmdaaW.PrintLast Go.Proofs.YtdadnapfecmmdaaW.PrintMore
open Go.Proofs.Ytdadnapfecmmdaa.Hm
def exC : Cfg := ⟨0, [⟨⟨#[119, 101, 98]⟩, 1, 10, 0, 0, [⟨#[100, 98]⟩]⟩, ⟨⟨#[100, 98]⟩, 2, 4, 0, 0, []⟩], [⟨1, 5⟩, ⟨2, 0⟩], [], [], 3, 4, 1, 0, 2, 0, 0⟩
def exT : List Tr := [⟨3145729, [⟨3145729, 1, 0, 0, 1, 3, ⟨#[119, 101, 98]⟩, ⟨#[]⟩, strServe, 3005, 3019, false⟩, ⟨3145729, 2, 1, 0, 1, 2, ⟨#[119, 101, 98]⟩, ⟨#[]⟩, strCall, 3010, 3014, false⟩, ⟨3145729, 3, 2, 0, 2, 3, ⟨#[100, 98]⟩, ⟨#[]⟩, strServe, 3005, 3009, false⟩]⟩]
theorem ex_valid : Valid exC where
  seed0 := by decide
  seed1 := by decide
  n0 := by decide
  n1 := by decide
  nf := by decide
  sname := fun i h => match i, h with
    | 0, _ => NameOk.of (by kernel_rfl)
    | 1, _ => NameOk.of (by kernel_rfl)
  sidx := fun i h => match i, h with
    | 0, _ => by rw [show svIdx exC.sv exC.sv[0].f0 = 0 from by kernel_rfl]; decide
    | 1, _ => by rw [show svIdx exC.sv exC.sv[1].f0 = 1 from by kernel_rfl]; decide
  srange := fun i h => match i, h with
    | 0, _ => by simp [exC]
    | 1, _ => by simp [exC]
  slen := fun i h => match i, h with
    | 0, _ => by simp [exC]
    | 1, _ => by simp [exC]
  scall := fun i h => match i, h with
    | 0, _ => fun nm hm => by
      obtain rfl : nm = ⟨#[100, 98]⟩ := List.mem_singleton.mp hm
      rw [show svIdx exC.sv ⟨#[100, 98]⟩ = 1 from by kernel_rfl]; decide
    | 1, _ => fun nm hm => by cases hm
  off := fun i h => match i, h with
    | 0, _ => by simp [exC]
    | 1, _ => by simp [exC]
  offn := by decide
  offo := fun i h => match i, h with
    | 0, _ => by simp [exC]
  gap := fun i h => match i, h with
    | 0, _ => by kernel_rfl
    | 1, _ => by kernel_rfl
  ch := by kernel_rfl
  fsvc := fun i h => absurd h (Nat.not_lt_zero i)
  fver := fun i h => absurd h (Nat.not_lt_zero i)
  fwhen := fun i h => absurd h (Nat.not_lt_zero i)
  frange := fun i h => absurd h (Nat.not_lt_zero i)
  t0 := by decide
  t1 := by decide
  t2 := by decide
  t3 := by decide
  per0 := by decide
  per1 := by decide
  del0 := by decide
  del1 := by decide
  chu0 := by decide
  chu1 := by decide
  los0 := by decide
  los1 := by decide
  rep0 := by decide
  rep1 := by decide
  cnt := by rw [show cntOf exC.sv = 3 from by kernel_rfl]; decide
theorem ex_check : ckAll 20 exC = some 0 := ckAll_ok ex_valid 20
theorem ex_traces : tracesV 20 exC (shiftSp exC.off) = some exT := by kernel_rfl
end Go.Proofs.Ytdadnapfecmmdaa.P
