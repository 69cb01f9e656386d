/- Own texts of a proof about layer 55's simulate (merged): Hf, Hs, Hg, PF65, PF33, PF10, PF71, PQ1, PF87. -/
import Derived.Test.YtdadnapfecmmdaaYc2
import Derived.Test.YtdadnapfecmmdaaYc3
import Derived.Laws.EntriesVeiled
import Derived.StillTailTactics
import Derived.Deep.DeepMust
namespace Go.Proofs.Ytdadnapfecmmdaa.P
set_option linter.unusedVariables false
set_option linter.unusedSimpArgs false
open Go.RowKit Go.Proofs.YtdadnapfecmmdaaW.PrintWords Go.Proofs.YtdadnapfecmmdaaW.PrintLast Go.Proofs.YtdadnapfecmmdaaW.PrintMore
open Go.Proofs.Ytdadnapfecmmdaa.Hm
def NameOk (s : ByteArray) : Prop := ∀ k, 70 ≤ k → attribute_IsName.f k s = some true
theorem NameOk.of {s : ByteArray} (h : attribute_IsName.f 70 s = some true) : NameOk s := by
  obtain ⟨b, hb⟩ := isName_total s
  have h0 := hb 0
  rw [Nat.zero_add, h] at h0
  obtain rfl := Option.some.inj h0
  intro k hk
  have := hb (k - 70)
  rwa [show k - 70 + 70 = k from by omega] at this
theorem rd64 (l : List S64) (i : Nat) (h : i < l.length) : rd_T64 l (i : Int) = l[i] := by
  unfold rd_T64; simp [List.getD_eq_getElem?_getD, h]
theorem rd91 (l : List S91) (i : Nat) (h : i < l.length) : rd_T91 l (i : Int) = l[i] := by
  unfold rd_T91; simp [List.getD_eq_getElem?_getD, h]
theorem rd61 (l : List S61) (i : Nat) (h : i < l.length) : rd_T61 l (i : Int) = l[i] := by
  unfold rd_T61; simp [List.getD_eq_getElem?_getD, h]
section
variable (c : Cfg)
structure Valid : Prop where
  seed0 : 0 ≤ c.seed
  seed1 : c.seed ≤ 1048576
  n0 : 1 ≤ c.sv.length
  n1 : c.sv.length ≤ 16
  nf : c.fl.length ≤ 16
  sname : ∀ i (h : i < c.sv.length), NameOk c.sv[i].f0
  sidx : ∀ i (h : i < c.sv.length), (i : Int) ≤ svIdx c.sv c.sv[i].f0
  srange : ∀ i (h : i < c.sv.length), 1 ≤ c.sv[i].f1 ∧ c.sv[i].f1 ≤ 1048576 ∧ 0 ≤ c.sv[i].f2 ∧ c.sv[i].f2 ≤ 1048576 ∧ 0 ≤ c.sv[i].f3 ∧ c.sv[i].f3 ≤ 1048576 ∧ 0 ≤ c.sv[i].f4 ∧ c.sv[i].f4 ≤ 1000000
  slen : ∀ i (h : i < c.sv.length), c.sv[i].f5.length ≤ 8
  scall : ∀ i (h : i < c.sv.length), ∀ nm ∈ c.sv[i].f5, (i : Int) < svIdx c.sv nm
  off : ∀ i (h : i < c.off.length), 1 ≤ c.off[i].f0 ∧ c.off[i].f0 ≤ 1048576 ∧ -1048576 ≤ c.off[i].f1 ∧ c.off[i].f1 ≤ 1048576
  offn : c.off.length ≤ 1000
  offo : ∀ i (h : i + 1 < c.off.length), c.off[i].f0 < c.off[i + 1].f0
  gap : ∀ i (h : i < c.sv.length), (offOf c.off c.sv[i].f1).2 = true
  ch : depCheck c.ch = 0
  fsvc : ∀ i (h : i < c.fl.length), 0 ≤ svIdx c.sv c.fl[i].f0
  fver : ∀ i (h : i < c.fl.length), c.fl[i].f1.toList = [] ∨ NameOk c.fl[i].f1
  fwhen : ∀ i (h : i < c.fl.length), 0 ≤ c.fl[i].f2.f0 ∧ c.fl[i].f2.f0 < c.fl[i].f2.f1 ∧ c.fl[i].f2.f1 ≤ 1048577
  frange : ∀ i (h : i < c.fl.length), 0 ≤ c.fl[i].f3 ∧ c.fl[i].f3 ≤ 1048576 ∧ 0 ≤ c.fl[i].f4 ∧ c.fl[i].f4 ≤ 1000000
  t0 : 0 ≤ c.sfrom
  t1 : c.sfrom ≤ c.sto
  t2 : c.sto ≤ 1048576
  t3 : c.sto - c.sfrom ≤ 64
  per0 : 0 ≤ c.per
  per1 : c.per ≤ 16
  del0 : 0 ≤ c.delay
  del1 : c.delay ≤ 1048576
  chu0 : 1 ≤ c.chunk
  chu1 : c.chunk ≤ 64
  los0 : 0 ≤ c.loss
  los1 : c.loss ≤ 1000000
  rep0 : 0 ≤ c.rep
  rep1 : c.rep ≤ 1000000
  cnt : cntOf c.sv ≤ 256
end
theorem ckD_calls (c : Cfg) (p : CfgAt) (g : Nat) (w : World) (hR : CfgR w p c) (hg : w.heap[g]? = some (.cells (c.cells p) 31 (0, 0))) :
    Calls Try.prog 55 #[.pointer (some ⟨g, 0, none⟩)] w fun e w' => e = .returned (.int .i64 (depCheck c.ch)) ∧ Below w.heap.size w w' := by
  have q3 : w.cell? ⟨g, 3, none⟩ = some (.slice p.A3 c.ch.length p.c3) := (blk_cell hg 3).trans rfl
  have HC := Aside0.mk (depCheck_calls p.A3 p.c3 c.ch w hR.r3)
  clear hR hg
  generalize depCheck c.ch = r at HC
  go_enter Try.func55, Try.ntmps55
  go_wp2_with (go_at_call 50; refine HC.out.mono ?_; rintro e w1 ⟨rfl, hb1⟩)
  go_ret
  exact ⟨rfl, hb1⟩
theorem outside_calls (n a b : Int) (w : World) : Calls Try.prog 52 #[.int .i64 n, .int .i64 a, .int .i64 b] w fun e w' => e = .returned (.bool (decide (n < a ∨ b < n))) ∧ Drawn0 w w' := by
  refine simulate_outside.calls n a b _ w ?_
  unfold simulate_outside.f
  by_cases h : n < a
  · simp [h]
  · simp [h]
theorem cfg12 {c : Cfg} {p : CfgAt} {W : World} {g : Nat} (h : W.heap[g]? = some (.cells (c.cells p) 31 (0, 0))) : W.cell? ⟨g, 0, none⟩ = some (.int .i64 c.seed) ∧ W.cell? ⟨g, 1, none⟩ = some (.slice p.A1 c.sv.length p.c1) ∧ W.cell? ⟨g, 2, none⟩ = some (.slice p.A2 c.off.length p.c2) ∧ W.cell? ⟨g, 3, none⟩ = some (.slice p.A3 c.ch.length p.c3) ∧ W.cell? ⟨g, 4, none⟩ = some (.slice p.A4 c.fl.length p.c4) ∧ W.cell? ⟨g, 5, none⟩ = some (.int .i64 c.sfrom) ∧ W.cell? ⟨g, 6, none⟩ = some (.int .i64 c.sto) ∧ W.cell? ⟨g, 7, none⟩ = some (.int .i64 c.per) ∧ W.cell? ⟨g, 8, none⟩ = some (.int .i64 c.delay) ∧ W.cell? ⟨g, 9, none⟩ = some (.int .i64 c.chunk) ∧ W.cell? ⟨g, 10, none⟩ = some (.int .i64 c.loss) ∧ W.cell? ⟨g, 11, none⟩ = some (.int .i64 c.rep) :=
  ⟨(blk_cell h 0).trans rfl, (blk_cell h 1).trans rfl, (blk_cell h 2).trans rfl, (blk_cell h 3).trans rfl, (blk_cell h 4).trans rfl, (blk_cell h 5).trans rfl, (blk_cell h 6).trans rfl, (blk_cell h 7).trans rfl, (blk_cell h 8).trans rfl, (blk_cell h 9).trans rfl, (blk_cell h 10).trans rfl, (blk_cell h 11).trans rfl⟩
theorem outside_no (n a b : Int) (w : World) (h0 : a ≤ n) (h1 : n ≤ b) : Calls Try.prog 52 #[.int .i64 n, .int .i64 a, .int .i64 b] w fun e w' => e = .returned (.bool false) ∧ Below w.heap.size w w' := by
  refine (outside_calls n a b w).mono ?_
  rintro e w' ⟨rfl, nd, rfl⟩
  exact ⟨by rw [show decide (n < a ∨ b < n) = false from by simp; omega], pw_below_drewN (Below.refl _ _) nd⟩
set_option maxHeartbeats 2000000 in
set_option maxRecDepth 100000 in
theorem ckR_walk (c : Cfg) (p : CfgAt) (w : World) (hR : CfgR w p c) (hv : Valid c) : Calls Try.prog 57 #[c.val p] w fun e w' => e = .returned (.int .i64 0) ∧ Below w.heap.size w w' := by
  obtain ⟨A1, c1, A2, c2, A3, c3, A4, c4⟩ := p
  have HR := Aside0.mk hR
  have HN := Aside0.mk hv.n0
  have hcnt := hv.cnt
  have a0 := hv.t0
  have a1 := hv.t1
  have a2 := hv.t2
  have a3 := hv.t3
  have a4 : IntKind.i64.wrap (c.sto - c.sfrom) = c.sto - c.sfrom := IntWalk.i64_in _ (by omega)
  have H1 := Aside0.mk (fun W => outside_no c.per 0 16 W hv.per0 hv.per1)
  have H2 := Aside0.mk (fun W => outside_no c.delay 0 1048576 W hv.del0 hv.del1)
  have H3 := Aside0.mk (fun W => outside_no c.chunk 1 64 W hv.chu0 hv.chu1)
  have H4 := Aside0.mk (fun W => outside_no c.loss 0 1000000 W hv.los0 hv.los1)
  have H5 := Aside0.mk (fun W => outside_no c.rep 0 1000000 W hv.rep0 hv.rep1)
  clear hR hv
  go_enter Try.func57, Try.ntmps57
  have hb := below_alloc (Below.refl w.heap.size w) (.cells (c.cells ⟨A1, c1, A2, c2, A3, c3, A4, c4⟩) 31)
  have hx := blk_new w (.cells (c.cells ⟨A1, c1, A2, c2, A3, c3, A4, c4⟩) 31)
  go_wp2_with fail
  generalize w.alloc (.cells (c.cells ⟨A1, c1, A2, c2, A3, c3, A4, c4⟩) 31) = v0 at hx hb ⊢
  refine (H1.out _).mono ?_
  rintro e v1 ⟨rfl, hb1⟩
  replace hx := blk_below hx hb1
  replace hb := below_step hb hb1
  clear hb1
  have q8 : v1.cell? ⟨w.heap.size, 8, none⟩ = some (.int .i64 c.delay) := (blk_cell hx 8).trans rfl
  go_wp2_with fail
  refine (H2.out _).mono ?_
  rintro e v2 ⟨rfl, hb1⟩
  replace hx := blk_below hx hb1
  replace hb := below_step hb hb1
  clear hb1
  have q9 : v2.cell? ⟨w.heap.size, 9, none⟩ = some (.int .i64 c.chunk) := (blk_cell hx 9).trans rfl
  go_wp2_with fail
  refine (H3.out _).mono ?_
  rintro e v3 ⟨rfl, hb1⟩
  replace hx := blk_below hx hb1
  replace hb := below_step hb hb1
  clear hb1
  have q10 : v3.cell? ⟨w.heap.size, 10, none⟩ = some (.int .i64 c.loss) := (blk_cell hx 10).trans rfl
  go_wp2_with fail
  refine (H4.out _).mono ?_
  rintro e v4 ⟨rfl, hb1⟩
  replace hx := blk_below hx hb1
  replace hb := below_step hb hb1
  clear hb1
  have q11 : v4.cell? ⟨w.heap.size, 11, none⟩ = some (.int .i64 c.rep) := (blk_cell hx 11).trans rfl
  go_wp2_with fail
  refine (H5.out _).mono ?_
  rintro e v5 ⟨rfl, hb1⟩
  replace hx := blk_below hx hb1
  replace hb := below_step hb hb1
  clear hb1
  have q0 : v5.cell? ⟨w.heap.size, 0, none⟩ = some (.int .i64 c.seed) := (blk_cell hx 0).trans rfl
  have q1 : v5.cell? ⟨w.heap.size, 1, none⟩ = some (.slice A1 c.sv.length c1) := (blk_cell hx 1).trans rfl
  have q2 : v5.cell? ⟨w.heap.size, 2, none⟩ = some (.slice A2 c.off.length c2) := (blk_cell hx 2).trans rfl
  have q3 : v5.cell? ⟨w.heap.size, 3, none⟩ = some (.slice A3 c.ch.length c3) := (blk_cell hx 3).trans rfl
  have q4 : v5.cell? ⟨w.heap.size, 4, none⟩ = some (.slice A4 c.fl.length c4) := (blk_cell hx 4).trans rfl
  have q5 : v5.cell? ⟨w.heap.size, 5, none⟩ = some (.int .i64 c.sfrom) := (blk_cell hx 5).trans rfl
  have q6 : v5.cell? ⟨w.heap.size, 6, none⟩ = some (.int .i64 c.sto) := (blk_cell hx 6).trans rfl
  have q7 : v5.cell? ⟨w.heap.size, 7, none⟩ = some (.int .i64 c.per) := (blk_cell hx 7).trans rfl
  have q8 : v5.cell? ⟨w.heap.size, 8, none⟩ = some (.int .i64 c.delay) := (blk_cell hx 8).trans rfl
  have q9 : v5.cell? ⟨w.heap.size, 9, none⟩ = some (.int .i64 c.chunk) := (blk_cell hx 9).trans rfl
  have q10 : v5.cell? ⟨w.heap.size, 10, none⟩ = some (.int .i64 c.loss) := (blk_cell hx 10).trans rfl
  have q11 : v5.cell? ⟨w.heap.size, 11, none⟩ = some (.int .i64 c.rep) := (blk_cell hx 11).trans rfl
  go_wp2_with fail
  refine (count_calls c ⟨A1, c1, A2, c2, A3, c3, A4, c4⟩ _ (HR.out.below hb) HN.out).mono ?_
  rintro e v6 ⟨rfl, hb1⟩
  go_wp2_with fail
  go_ret
  exact ⟨by rfl, below_step hb hb1⟩
theorem name_calls (s : ByteArray) (h : NameOk s) (w : World) : Calls Try.prog 51 #[.string s] w fun e w' => e = .returned (.bool true) ∧ Below w.heap.size w w' := by
  refine (attribute_IsName.calls 70 s true w (h 70 (Nat.le_refl _))).mono ?_
  rintro e w' ⟨rfl, hb⟩
  first | exact ⟨rfl, hb⟩ | (obtain ⟨nd, rfl⟩ := hb; exact ⟨rfl, pw_below_drewN (Below.refl _ _) nd⟩)
set_option maxHeartbeats 2000000 in
set_option maxRecDepth 100000 in
theorem ckF_walk (c : Cfg) (p : CfgAt) (w : World) (hR : CfgR w p c) (hv : Valid c) : Calls Try.prog 56 #[c.val p] w fun e w' => e = .returned (.int .i64 0) ∧ Below w.heap.size w w' := by
  obtain ⟨A1, c1, A2, c2, A3, c3, A4, c4⟩ := p
  have HR := Aside0.mk hR
  have HV := Aside0.mk hv
  have hn := hv.nf
  have HX0 := Aside0.mk (blk_new w (.cells (c.cells ⟨A1, c1, A2, c2, A3, c3, A4, c4⟩) 31))
  have HB0 := Aside0.mk (below_alloc (Below.refl w.heap.size w) (.cells (c.cells ⟨A1, c1, A2, c2, A3, c3, A4, c4⟩) 31))
  clear hR hv
  go_enter Try.func56, Try.ntmps56
  go_wp2_with fail
  go_loopg [4, 8] c.fl.length (fun gg s4 s8 wr => ∃ i : Nat, i ≤ c.fl.length ∧ c.fl.length - i ≤ gg ∧ s8 = .int .i64 (i : Int) ∧ Aside0 (wr.heap[w.heap.size]? = some (.cells (c.cells ⟨A1, c1, A2, c2, A3, c3, A4, c4⟩) 31 (0, 0))) ∧ Aside0 (Below w.heap.size w wr))
  case atStart => exact ⟨0, Nat.zero_le _, by omega, rfl, HX0, HB0⟩
  case round =>
  obtain ⟨i, hi, hgi, rfl, HX, HB⟩ := hrel
  by_cases hlt : i < c.fl.length
  · have hs := HV.out.fsvc i hlt
    have hvr := HV.out.fver i hlt
    obtain ⟨w0, w1', w2⟩ := HV.out.fwhen i hlt
    obtain ⟨r0, r1, r2, r3⟩ := HV.out.frange i hlt
    obtain ⟨ad, e, t0, t1, t2, t3, t4, t5⟩ := at_T61 HR.out.r4 (i : Int) (by omega) (by omega)
    dsimp only at e
    subst e
    simp only [Int.toNat_natCast] at t0 t1 t2 t3 t4 t5
    rw [rd61 c.fl i hlt] at t0 t1 t2 t3 t4 t5
    generalize c.fl[i] = x at hs hvr w0 w1' w2 r0 r1 r2 r3 t0 t1 t2 t3 t4 t5
    replace t0 := (HB.out.cell (World.block_lt_of_cell? _ _ t0)).trans t0
    replace t1 := (HB.out.cell (World.block_lt_of_cell? _ _ t1)).trans t1
    replace t2 := (HB.out.cell (World.block_lt_of_cell? _ _ t2)).trans t2
    replace t3 := (HB.out.cell (World.block_lt_of_cell? _ _ t3)).trans t3
    replace t4 := (HB.out.cell (World.block_lt_of_cell? _ _ t4)).trans t4
    replace t5 := (HB.out.cell (World.block_lt_of_cell? _ _ t5)).trans t5
    have hz1 : (i : Int) < (c.fl.length : Int) := by omega
    go_upto_region 4 with fail
    have HX1 := Aside0.mk (blk_alloc HX.out (.cells #[.string x.f0, .string x.f1, .int .i64 x.f2.f0, .int .i64 x.f2.f1, .int .i64 x.f3, .int .i64 x.f4] 61))
    have HY1 := Aside0.mk (blk_new wr (.cells #[.string x.f0, .string x.f1, .int .i64 x.f2.f0, .int .i64 x.f2.f1, .int .i64 x.f3, .int .i64 x.f4] 61))
    have HB1 := Aside0.mk (below_alloc HB.out (.cells #[.string x.f0, .string x.f1, .int .i64 x.f2.f0, .int .i64 x.f2.f1, .int .i64 x.f3, .int .i64 x.f4] 61))
    clear t0 t1 t2 t3 t4 t5
    generalize hgb : wr.heap.size = gb at HY1 ⊢
    generalize wr.alloc (.cells #[.string x.f0, .string x.f1, .int .i64 x.f2.f0, .int .i64 x.f2.f1, .int .i64 x.f3, .int .i64 x.f4] 61) = v0 at HX1 HY1 HB1 ⊢
    have q0 : v0.cell? ⟨w.heap.size, 0, none⟩ = some (.int .i64 c.seed) := (blk_cell HX1.out 0).trans rfl
    have q1 : v0.cell? ⟨w.heap.size, 1, none⟩ = some (.slice A1 c.sv.length c1) := (blk_cell HX1.out 1).trans rfl
    have q2 : v0.cell? ⟨w.heap.size, 2, none⟩ = some (.slice A2 c.off.length c2) := (blk_cell HX1.out 2).trans rfl
    have q3 : v0.cell? ⟨w.heap.size, 3, none⟩ = some (.slice A3 c.ch.length c3) := (blk_cell HX1.out 3).trans rfl
    have q4 : v0.cell? ⟨w.heap.size, 4, none⟩ = some (.slice (some ad) c.fl.length c4) := (blk_cell HX1.out 4).trans rfl
    have q5 : v0.cell? ⟨w.heap.size, 5, none⟩ = some (.int .i64 c.sfrom) := (blk_cell HX1.out 5).trans rfl
    have q6 : v0.cell? ⟨w.heap.size, 6, none⟩ = some (.int .i64 c.sto) := (blk_cell HX1.out 6).trans rfl
    have q7 : v0.cell? ⟨w.heap.size, 7, none⟩ = some (.int .i64 c.per) := (blk_cell HX1.out 7).trans rfl
    have q8 : v0.cell? ⟨w.heap.size, 8, none⟩ = some (.int .i64 c.delay) := (blk_cell HX1.out 8).trans rfl
    have q9 : v0.cell? ⟨w.heap.size, 9, none⟩ = some (.int .i64 c.chunk) := (blk_cell HX1.out 9).trans rfl
    have q10 : v0.cell? ⟨w.heap.size, 10, none⟩ = some (.int .i64 c.loss) := (blk_cell HX1.out 10).trans rfl
    have q11 : v0.cell? ⟨w.heap.size, 11, none⟩ = some (.int .i64 c.rep) := (blk_cell HX1.out 11).trans rfl
    have y0 : v0.cell? ⟨gb, 0, none⟩ = some (.string x.f0) := (blk_cell HY1.out 0).trans rfl
    go_wp2_with fail
    refine (index_calls c ⟨A1, c1, A2, c2, A3, c3, (some ad), c4⟩ x.f0 _ (HR.out.below HB1.out)).mono ?_
    rintro e v1 ⟨rfl, hb1⟩
    have hx := blk_below HX1.out hb1
    have hy := blk_below HY1.out hb1
    have hb := below_step HB1.out hb1
    clear hb1 HX1 HY1 HB1 y0 q0 q1 q2 q3 q4 q5 q6 q7 q8 q9 q10 q11
    have y1 : v1.cell? ⟨gb, 1, none⟩ = some (.string x.f1) := (blk_cell hy 1).trans rfl
    have z1 : (svIdx c.sv x.f0 < 0) = False := eq_false (by omega)
    have z2 : decide (svIdx c.sv x.f0 < 0) = false := by simp; omega
    generalize svIdx c.sv x.f0 = si at z1 z2 ⊢
    go_upto_region 6 with fail
    have HX := Aside0.mk hx
    have HY := Aside0.mk hy
    have HB := Aside0.mk hb
    clear hx hy hb
    go_cut [18] (fun s18 wz => s18 = .bool false ∧ Aside0 (wz.heap[w.heap.size]? = some (.cells (c.cells ⟨A1, c1, A2, c2, A3, c3, (some ad), c4⟩) 31 (0, 0))) ∧ Aside0 (wz.heap[gb]? = some (.cells #[.string x.f0, .string x.f1, .int .i64 x.f2.f0, .int .i64 x.f2.f1, .int .i64 x.f3, .int .i64 x.f4] 61 (0, 0))) ∧ Aside0 (Below w.heap.size w wz))
    case first =>
      by_cases hE : x.f1.toList = []
      · have e1 : x.f1.toList.isEmpty = true := by rw [hE]; rfl
        go_wp2_with fail
        go_meet
        exact ⟨rfl, HX, HY, HB⟩
      · have e1 : x.f1.toList.isEmpty = false := by simpa using hE
        have hnm := Aside0.mk (hvr.resolve_left hE)
        clear hE hvr
        go_wp2_with fail
        refine (name_calls x.f1 hnm.out _).mono ?_
        rintro e v2 ⟨rfl, hb1⟩
        go_wp2_with fail
        go_meet
        exact ⟨rfl, ⟨blk_below HX.out hb1⟩, ⟨blk_below HY.out hb1⟩, ⟨below_step HB.out hb1⟩⟩
    case rest =>
      clear HX HY HB y1 z1 z2
      obtain ⟨rfl, HX, HY, HB⟩ := hcut
      have y2 : wc.cell? ⟨gb, 2, none⟩ = some (.int .i64 x.f2.f0) := (blk_cell HY.out 2).trans rfl
      have y3 : wc.cell? ⟨gb, 3, none⟩ = some (.int .i64 x.f2.f1) := (blk_cell HY.out 3).trans rfl
      have y4 : wc.cell? ⟨gb, 4, none⟩ = some (.int .i64 x.f3) := (blk_cell HY.out 4).trans rfl
      have H4 := Aside0.mk (fun W => outside_no x.f3 0 1048576 W r0 r1)
      have H5 := Aside0.mk (fun W => outside_no x.f4 0 1000000 W r2 r3)
      clear hs hvr r0 r1 r2 r3
      go_wp2_with fail
      refine (H4.out _).mono ?_
      rintro e v2 ⟨rfl, hb2⟩
      have hy := blk_below HY.out hb2
      have HX2 := Aside0.mk (blk_below HX.out hb2)
      have HB2 := Aside0.mk (below_step HB.out hb2)
      have y5 : v2.cell? ⟨gb, 5, none⟩ = some (.int .i64 x.f4) := (blk_cell hy 5).trans rfl
      clear hy hb2 y2 y3 y4 HX HY HB
      go_wp2_with fail
      refine (H5.out _).mono ?_
      rintro e v3 ⟨rfl, hb3⟩
      have HX3 := Aside0.mk (blk_below HX2.out hb3)
      have HB3 := Aside0.mk (below_step HB2.out hb3)
      clear hb3 y5 HX2 HB2
      go_wp2_with fail
      go_roundg (c.fl.length - (i + 1))
      case measure => omega
      case rel => exact ⟨i + 1, by omega, by omega, by first | rfl | go_num, HX3, HB3⟩
  · have hz1 : decide (i < c.fl.length) = false := by simp; omega
    have hz2 : decide ((i : Int) < (c.fl.length : Int)) = false := by simp; omega
    clear hlt
    go_wp2
    go_ret
    exact ⟨rfl, HB.out⟩
def ckoT.T6 : Bool × List (List Nat × List Nat) := (true, [([], []), ([0], [0]), ([1], [1]), ([2], [2]), ([3, 2], [2, 3]), ([2], [2]), ([5, 2], [2, 5]), ([2], [2]), ([7, 2], [2, 7]), ([6, 8, 2], [2, 6, 8]), ([9, 2], [2, 9]), ([10, 2], [2, 10]), ([4, 11, 2], [2, 4, 11]), ([2, 12], [2, 12]), ([13, 2], [13])])
def ckoT.B6 : List Nat := [0, 1, 3, 7, 15, 7, 39, 7, 135, 487, 999, 2023, 4095, 8191, 16383]
theorem ckoT.tab6 : rtab .any (opsOf Try.f54 6) = ckoT.T6 := by kernel_rfl
theorem ckoT.bits6 : waitsOk ckoT.T6.2 ckoT.B6 = true := by kernel_rfl
set_option maxHeartbeats 2000000 in
set_option maxRecDepth 100000 in
theorem ckO_walk (c : Cfg) (p : CfgAt) (w : World) (hR : CfgR w p c) (hv : Valid c) : Calls Try.prog 54 #[c.val p] w fun e w' => e = .returned (.int .i64 0) ∧ Below w.heap.size w w' := by
  obtain ⟨A1, c1, A2, c2, A3, c3, A4, c4⟩ := p
  have HR := Aside0.mk hR
  have HV := Aside0.mk hv
  have hn := hv.offn
  have hn1 := hv.n1
  have HX0 := Aside0.mk (blk_new w (.cells (c.cells ⟨A1, c1, A2, c2, A3, c3, A4, c4⟩) 31))
  have HB0 := Aside0.mk (below_alloc (Below.refl w.heap.size w) (.cells (c.cells ⟨A1, c1, A2, c2, A3, c3, A4, c4⟩) 31))
  clear hR hv
  go_enter Try.func54, Try.ntmps54
  go_wp2_with fail
  go_loopg [3, 4, 12] c.off.length (fun gg s3 s4 s12 wr => ∃ i : Nat, i ≤ c.off.length ∧ c.off.length - i ≤ gg ∧ s12 = .int .i64 (i : Int) ∧ Aside0 (wr.heap[w.heap.size]? = some (.cells (c.cells ⟨A1, c1, A2, c2, A3, c3, A4, c4⟩) 31 (0, 0))) ∧ Aside0 (Below w.heap.size w wr))
  case atStart => exact ⟨0, Nat.zero_le _, by omega, rfl, HX0, HB0⟩
  case round =>
  obtain ⟨i, hi, hgi, rfl, HX, HB⟩ := hrel
  by_cases hlt : i < c.off.length
  · obtain ⟨r0, r1, r2, r3⟩ := HV.out.off i hlt
    have ho : 0 < i → c.off[i - 1].f0 < c.off[i].f0 := fun h => by
      have := HV.out.offo (i - 1) (by omega)
      simpa only [show i - 1 + 1 = i from by omega] using this
    obtain ⟨ad, e, t0, t1⟩ := at_T91 HR.out.r2 (i : Int) (by omega) (by omega)
    obtain ⟨ad2, e2, u0, -⟩ := at_T91 HR.out.r2 ((i - 1 : Nat) : Int) (by omega) (by omega)
    dsimp only at e e2
    subst e
    obtain rfl : ad = ad2 := by injection e2
    clear e2
    simp only [Int.toNat_natCast] at t0 t1 u0
    rw [rd91 c.off i hlt] at t0 t1
    rw [rd91 c.off (i - 1) (by omega)] at u0
    generalize c.off[i] = x at r0 r1 r2 r3 t0 t1 ho
    generalize c.off[i - 1].f0 = y at u0 ho
    replace t0 := (HB.out.cell (World.block_lt_of_cell? _ _ t0)).trans t0
    replace t1 := (HB.out.cell (World.block_lt_of_cell? _ _ t1)).trans t1
    replace u0 := (HB.out.cell (World.block_lt_of_cell? _ _ u0)).trans u0
    have hz1 : (i : Int) < (c.off.length : Int) := by omega
    have H1 := Aside0.mk (fun W => outside_no x.f0 1 1048576 W r0 r1)
    have H2 := Aside0.mk (fun W => outside_no x.f1 (-1048576) 1048576 W r2 r3)
    clear r0 r1 r2 r3
    go_upto_region 4 with fail
    have HX1 := Aside0.mk (blk_alloc HX.out (.cells #[.int .i64 x.f0, .int .i64 x.f1] 91))
    have HY1 := Aside0.mk (blk_new wr (.cells #[.int .i64 x.f0, .int .i64 x.f1] 91))
    have HB1 := Aside0.mk (below_alloc HB.out (.cells #[.int .i64 x.f0, .int .i64 x.f1] 91))
    have hb0 : Below wr.heap.size wr (wr.alloc (.cells #[.int .i64 x.f0, .int .i64 x.f1] 91)) := below_alloc (Below.refl _ _) _
    replace u0 := (hb0.cell (World.block_lt_of_cell? _ _ u0)).trans u0
    clear t0 t1 hb0
    generalize hgb : wr.heap.size = gb at HY1 ⊢
    generalize wr.alloc (.cells #[.int .i64 x.f0, .int .i64 x.f1] 91) = v0 at HX1 HY1 HB1 u0 ⊢
    have y0 : v0.cell? ⟨gb, 0, none⟩ = some (.int .i64 x.f0) := (blk_cell HY1.out 0).trans rfl
    go_wp2_with fail
    refine (H1.out _).mono ?_
    rintro e v1 ⟨rfl, hb1⟩
    have HX2 := Aside0.mk (blk_below HX1.out hb1)
    have HY2 := Aside0.mk (blk_below HY1.out hb1)
    have HB2 := Aside0.mk (below_step HB1.out hb1)
    replace u0 := (hb1.cell (World.block_lt_of_cell? _ _ u0)).trans u0
    have y1 : v1.cell? ⟨gb, 1, none⟩ = some (.int .i64 x.f1) := (blk_cell HY2.out 1).trans rfl
    clear hb1 y0 HX1 HY1 HB1
    go_wp2_with fail
    refine (H2.out _).mono ?_
    rintro e v2 ⟨rfl, hb1⟩
    have HX3 := Aside0.mk (blk_below HX2.out hb1)
    have HY3 := Aside0.mk (blk_below HY2.out hb1)
    have HB3 := Aside0.mk (below_step HB2.out hb1)
    replace u0 := (hb1.cell (World.block_lt_of_cell? _ _ u0)).trans u0
    have y0 : v2.cell? ⟨gb, 0, none⟩ = some (.int .i64 x.f0) := (blk_cell HY3.out 0).trans rfl
    have y2 : v2.cell? ⟨w.heap.size, 2, none⟩ = some (.slice (some ad) c.off.length c2) := (blk_cell HX3.out 2).trans rfl
    clear hb1 y1 HX2 HY2 HB2
    go_upto_region 6 with fail
    by_cases hi0 : 0 < i
    · have hy := ho hi0
      have k1 : IntKind.i64.wrap ((i : Int) - 1) = ((i - 1 : Nat) : Int) := by rw [IntWalk.i64_in _ (by omega)]; omega
      have k2 : decide ((0 : Int) < (i : Int)) = true := by simp; omega
      have k3 : decide (x.f0 ≤ y) = false := by simp; omega
      have k4 : ((i - 1 : Nat) : Int) < (c.off.length : Int) := by omega
      have k5 : (0 : Int) ≤ ((i - 1 : Nat) : Int) := by omega
      refine start_ (n := 15) (S := fun w' => Below v2.heap.size v2 w') (ds := []) #[false, false, false, false, false, false, false, false, false, false, false, false, false, false, false] (by kernel_rfl) rfl rfl (Below.refl _ _).drew (fun hHeld => ?_)
      refine with_tabW ckoT.tab6 ckoT.bits6 (fun HT_ HW_ => ?_)
      generalize v2.drew = wd at hHeld ⊢
      refine pu_ 0 (some 27) (bq 15 1) HT_ rfl rfl ?_
      refine pu_ 1 (some 28) (bq 15 3) HT_ rfl rfl ?_
      refine pu_ 2 (some 29) (bq 15 7) HT_ rfl rfl ?_
      refine pu_ 3 (some 30) (bq 15 15) HT_ rfl rfl ?_
      refine tk_ 4 (some 31) (bq 15 31) HT_ HW_ rfl rfl hHeld ?_ (by intro w' hS; replace y0 := below_at hS y0; go_simp; with_reducible rfl)
      refine pu_ 5 (some 32) (bq 15 63) HT_ rfl rfl ?_
      refine tk_ 6 (some 33) (bq 15 127) HT_ HW_ rfl rfl hHeld ?_ (by intro w' hS; replace y2 := below_at hS y2; go_simp; with_reducible rfl)
      refine pu_ 7 (some 34) (bq 15 255) HT_ rfl rfl ?_
      refine pu_ 8 (some 35) (bq 15 511) HT_ rfl rfl ?_
      refine pu_ 9 (some 36) (bq 15 1023) HT_ rfl rfl ?_
      refine pu_ 10 (some 37) (bq 15 2047) HT_ rfl rfl ?_
      refine tk_ 11 (some 38) (bq 15 4095) HT_ HW_ rfl rfl hHeld ?_ (by intro w' hS; replace u0 := below_at hS u0; go_simp; with_reducible rfl)
      refine pu_ 12 (some 39) (bq 15 8191) HT_ rfl rfl ?_
      refine pu_ 13 (some 40) (bq 15 16383) HT_ rfl rfl ?_
      refine pu_ 14 (some 26) (bq 15 32767) HT_ rfl rfl ?_
      refine done_ (done_of HT_.out (by kernel_rfl)) ?_
      have HX4 := Aside0.mk (blk_below HX3.out hHeld)
      have HB4 := Aside0.mk (below_step HB3.out hHeld)
      clear hHeld u0 y0 y2 HX3 HY3 HB3
      go_wp2_with fail
      go_roundg (c.off.length - (i + 1))
      case measure => omega
      case rel => exact ⟨i + 1, by omega, by omega, by first | rfl | go_num, HX4, HB4⟩
    · have k2 : decide ((0 : Int) < (i : Int)) = false := by simp; omega
      refine start_ (n := 15) (S := fun w' => Below v2.heap.size v2 w') (ds := []) #[false, false, false, false, false, false, false, false, false, false, false, false, false, false, false] (by kernel_rfl) rfl rfl (Below.refl _ _).drew (fun hHeld => ?_)
      refine with_tabW ckoT.tab6 ckoT.bits6 (fun HT_ HW_ => ?_)
      generalize v2.drew = wd at hHeld ⊢
      refine pu_ 0 (some 27) (bq 15 1) HT_ rfl rfl ?_
      refine pu_ 1 (some 28) (bq 15 3) HT_ rfl rfl ?_
      refine pu_ 2 (some 29) (bq 15 7) HT_ rfl rfl ?_
      refine po_ 3 (some 30) (bq 15 15) HT_ rfl rfl ?_
      refine to_ 4 (some 31) (bq 15 31) HT_ HW_ rfl rfl hHeld ?_
      refine po_ 5 (some 32) (bq 15 63) HT_ rfl rfl ?_
      refine to_ 6 (some 33) (bq 15 127) HT_ HW_ rfl rfl hHeld ?_
      refine po_ 7 (some 34) (bq 15 255) HT_ rfl rfl ?_
      refine po_ 8 (some 35) (bq 15 511) HT_ rfl rfl ?_
      refine po_ 9 (some 36) (bq 15 1023) HT_ rfl rfl ?_
      refine po_ 10 (some 37) (bq 15 2047) HT_ rfl rfl ?_
      refine to_ 11 (some 38) (bq 15 4095) HT_ HW_ rfl rfl hHeld ?_
      refine po_ 12 (some 39) (bq 15 8191) HT_ rfl rfl ?_
      refine pu_ 13 (some 40) (bq 15 16383) HT_ rfl rfl ?_
      refine pu_ 14 (some 26) (bq 15 32767) HT_ rfl rfl ?_
      refine done_ (done_of HT_.out (by kernel_rfl)) ?_
      have HX4 := Aside0.mk (blk_below HX3.out hHeld)
      have HB4 := Aside0.mk (below_step HB3.out hHeld)
      clear hHeld u0 y0 y2 HX3 HY3 HB3
      go_wp2_with fail
      go_roundg (c.off.length - (i + 1))
      case measure => omega
      case rel => exact ⟨i + 1, by omega, by omega, by first | rfl | go_num, HX4, HB4⟩
  · have hz1 : decide (i < c.off.length) = false := by simp; omega
    have hz2 : decide ((i : Int) < (c.off.length : Int)) = false := by simp; omega
    clear hlt
    have hn1 := HV.out.n1
    have y1 : wr.cell? ⟨w.heap.size, 1, none⟩ = some (.slice A1 c.sv.length c1) := (blk_cell HX.out 1).trans rfl
    clear hi hgi
    go_wp2_with fail
    clear y1
    go_loopg [6, 7, 8, 45] c.sv.length (fun gg s6 s7 s8 s45 wr => ∃ i : Nat, i ≤ c.sv.length ∧ c.sv.length - i ≤ gg ∧ s45 = .int .i64 (i : Int) ∧ Aside0 (wr.heap[w.heap.size]? = some (.cells (c.cells ⟨A1, c1, A2, c2, A3, c3, A4, c4⟩) 31 (0, 0))) ∧ Aside0 (Below w.heap.size w wr))
    case atStart => exact ⟨0, Nat.zero_le _, by omega, rfl, HX, HB⟩
    case round =>
    clear HX HB
    obtain ⟨i, hi, hgi, rfl, HX, HB⟩ := hrel
    by_cases hlt : i < c.sv.length
    · have hgap := HV.out.gap i hlt
      obtain ⟨ad, A5, c5, e, t0, t1, t2, t3, t4, t5, l5, k5⟩ := at_T64 HR.out.r1 (i : Int) (by omega) (by omega)
      dsimp only at e
      subst e
      simp only [Int.toNat_natCast] at t0 t1 t2 t3 t4 t5
      rw [rd64 c.sv i hlt] at t0 t1 t2 t3 t4 t5 l5 k5
      replace t0 := (HB.out.cell (World.block_lt_of_cell? _ _ t0)).trans t0
      replace t1 := (HB.out.cell (World.block_lt_of_cell? _ _ t1)).trans t1
      replace t2 := (HB.out.cell (World.block_lt_of_cell? _ _ t2)).trans t2
      replace t3 := (HB.out.cell (World.block_lt_of_cell? _ _ t3)).trans t3
      replace t4 := (HB.out.cell (World.block_lt_of_cell? _ _ t4)).trans t4
      replace t5 := (HB.out.cell (World.block_lt_of_cell? _ _ t5)).trans t5
      generalize c.sv[i] = x at hgap t0 t1 t2 t3 t4 t5
      have hz1 : (i : Int) < (c.sv.length : Int) := by omega
      clear l5 k5
      go_upto_region 12 with fail
      have HX1 := Aside0.mk (blk_alloc HX.out (.cells #[.string x.f0, .int .i64 x.f1, .int .i64 x.f2, .int .i64 x.f3, .int .i64 x.f4, .slice A5 x.f5.length c5] 64))
      have HY1 := Aside0.mk (blk_new wr (.cells #[.string x.f0, .int .i64 x.f1, .int .i64 x.f2, .int .i64 x.f3, .int .i64 x.f4, .slice A5 x.f5.length c5] 64))
      have HB1 := Aside0.mk (below_alloc HB.out (.cells #[.string x.f0, .int .i64 x.f1, .int .i64 x.f2, .int .i64 x.f3, .int .i64 x.f4, .slice A5 x.f5.length c5] 64))
      clear t0 t1 t2 t3 t4 t5
      generalize hgb : wr.heap.size = gb at HY1 ⊢
      generalize wr.alloc (.cells #[.string x.f0, .int .i64 x.f1, .int .i64 x.f2, .int .i64 x.f3, .int .i64 x.f4, .slice A5 x.f5.length c5] 64) = v0 at HX1 HY1 HB1 ⊢
      obtain ⟨q0, q1, q2, q3, q4, q5, q6, q7, q8, q9, q10, q11⟩ := cfg12 HX1.out
      have y1 : v0.cell? ⟨gb, 1, none⟩ = some (.int .i64 x.f1) := (blk_cell HY1.out 1).trans rfl
      clear HY1
      go_wp2_with fail
      refine (offset_calls c ⟨(some ad), c1, A2, c2, A3, c3, A4, c4⟩ x.f1 _ (HR.out.below HB1.out)).mono ?_
      rintro e v1 ⟨rfl, hb1⟩
      have HX2 := Aside0.mk (blk_below HX1.out hb1)
      have HB2 := Aside0.mk (below_step HB1.out hb1)
      rw [hgap]
      clear hb1 HX1 HB1 y1 q0 q1 q2 q3 q4 q5 q6 q7 q8 q9 q10 q11
      go_wp2_with fail
      go_roundg (c.sv.length - (i + 1))
      case measure => omega
      case rel => exact ⟨i + 1, by omega, by omega, by first | rfl | go_num, HX2, HB2⟩
    · have hz1 : decide (i < c.sv.length) = false := by simp; omega
      have hz2 : decide ((i : Int) < (c.sv.length : Int)) = false := by simp; omega
      clear hlt
      go_wp2
      go_ret
      exact ⟨rfl, HB.out⟩
set_option maxHeartbeats 2000000 in
set_option maxRecDepth 100000 in
theorem ckS_walk (c : Cfg) (p : CfgAt) (w : World) (hR : CfgR w p c) (hv : Valid c) : Calls Try.prog 53 #[c.val p] w fun e w' => e = .returned (.int .i64 0) ∧ Below w.heap.size w w' := by
  obtain ⟨A1, c1, A2, c2, A3, c3, A4, c4⟩ := p
  have HR := Aside0.mk hR
  have HV := Aside0.mk hv
  have hn1 := hv.n1
  have HX0 := Aside0.mk (blk_new w (.cells (c.cells ⟨A1, c1, A2, c2, A3, c3, A4, c4⟩) 31))
  have HB0 := Aside0.mk (below_alloc (Below.refl w.heap.size w) (.cells (c.cells ⟨A1, c1, A2, c2, A3, c3, A4, c4⟩) 31))
  clear hR hv
  go_enter Try.func53, Try.ntmps53
  go_wp2_with fail
  go_loopg [3, 4, 13] c.sv.length (fun gg s3 s4 s13 wr => ∃ i : Nat, i ≤ c.sv.length ∧ c.sv.length - i ≤ gg ∧ s13 = .int .i64 (i : Int) ∧ Aside0 (wr.heap[w.heap.size]? = some (.cells (c.cells ⟨A1, c1, A2, c2, A3, c3, A4, c4⟩) 31 (0, 0))) ∧ Aside0 (Below w.heap.size w wr))
  case atStart => exact ⟨0, Nat.zero_le _, by omega, rfl, HX0, HB0⟩
  case round =>
  clear HX0 HB0
  obtain ⟨i, hi, hgi, rfl, HX, HB⟩ := hrel
  by_cases hlt : i < c.sv.length
  · have hnm := Aside0.mk (HV.out.sname i hlt)
    have hix := HV.out.sidx i hlt
    obtain ⟨r0, r1, r2, r3, r4, r5, r6, r7⟩ := HV.out.srange i hlt
    have hsl := HV.out.slen i hlt
    obtain ⟨ad, A5, c5, e, t0, t1, t2, t3, t4, t5, l5, k5⟩ := at_T64 HR.out.r1 (i : Int) (by omega) (by omega)
    dsimp only at e
    subst e
    simp only [Int.toNat_natCast] at t0 t1 t2 t3 t4 t5
    rw [rd64 c.sv i hlt] at t0 t1 t2 t3 t4 t5 l5 k5
    replace t0 := (HB.out.cell (World.block_lt_of_cell? _ _ t0)).trans t0
    replace t1 := (HB.out.cell (World.block_lt_of_cell? _ _ t1)).trans t1
    replace t2 := (HB.out.cell (World.block_lt_of_cell? _ _ t2)).trans t2
    replace t3 := (HB.out.cell (World.block_lt_of_cell? _ _ t3)).trans t3
    replace t4 := (HB.out.cell (World.block_lt_of_cell? _ _ t4)).trans t4
    replace t5 := (HB.out.cell (World.block_lt_of_cell? _ _ t5)).trans t5
    clear k5
    generalize c.sv[i] = x at hnm hix r0 r1 r2 r3 r4 r5 r6 r7 hsl t0 t1 t2 t3 t4 t5 l5
    have hz1 : (i : Int) < (c.sv.length : Int) := by omega
    have H1 := Aside0.mk (fun W => outside_no x.f1 1 1048576 W r0 r1)
    have H2 := Aside0.mk (fun W => outside_no x.f2 0 1048576 W r2 r3)
    have H3 := Aside0.mk (fun W => outside_no x.f3 0 1048576 W r4 r5)
    have H4 := Aside0.mk (fun W => outside_no x.f4 0 1000000 W r6 r7)
    clear r0 r1 r2 r3 r4 r5 r6 r7 l5
    go_upto_region 4 with fail
    have HX1 := Aside0.mk (blk_alloc HX.out (.cells #[.string x.f0, .int .i64 x.f1, .int .i64 x.f2, .int .i64 x.f3, .int .i64 x.f4, .slice A5 x.f5.length c5] 64))
    have HY1 := Aside0.mk (blk_new wr (.cells #[.string x.f0, .int .i64 x.f1, .int .i64 x.f2, .int .i64 x.f3, .int .i64 x.f4, .slice A5 x.f5.length c5] 64))
    have HB1 := Aside0.mk (below_alloc HB.out (.cells #[.string x.f0, .int .i64 x.f1, .int .i64 x.f2, .int .i64 x.f3, .int .i64 x.f4, .slice A5 x.f5.length c5] 64))
    clear t0 t1 t2 t3 t4 t5
    generalize hgb : wr.heap.size = gb at HY1 ⊢
    generalize wr.alloc (.cells #[.string x.f0, .int .i64 x.f1, .int .i64 x.f2, .int .i64 x.f3, .int .i64 x.f4, .slice A5 x.f5.length c5] 64) = v0 at HX1 HY1 HB1 ⊢
    have y0 : v0.cell? ⟨gb, 0, none⟩ = some (.string x.f0) := (blk_cell HY1.out 0).trans rfl
    go_wp2_with fail
    refine (name_calls x.f0 hnm.out _).mono ?_
    rintro e v1 ⟨rfl, hb1⟩
    have HX2 := Aside0.mk (blk_below HX1.out hb1)
    have HY2 := Aside0.mk (blk_below HY1.out hb1)
    have HB2 := Aside0.mk (below_step HB1.out hb1)
    obtain ⟨q0, q1, q2, q3, q4, q5, q6, q7, q8, q9, q10, q11⟩ := cfg12 HX2.out
    replace y0 : v1.cell? ⟨gb, 0, none⟩ = some (.string x.f0) := (blk_cell HY2.out 0).trans rfl
    clear hb1 HX1 HY1 HB1
    go_wp2_with fail
    refine (index_calls c ⟨(some ad), c1, A2, c2, A3, c3, A4, c4⟩ x.f0 _ (HR.out.below HB2.out)).mono ?_
    rintro e v2 ⟨rfl, hb1⟩
    have z2 : decide (svIdx c.sv x.f0 < (i : Int)) = false := by simp; omega
    have HX3 := Aside0.mk (blk_below HX2.out hb1)
    have HY3 := Aside0.mk (blk_below HY2.out hb1)
    have HB3 := Aside0.mk (below_step HB2.out hb1)
    clear hb1 HX2 HY2 HB2 y0 q0 q1 q2 q3 q4 q5 q6 q7 q8 q9 q10 q11 hix
    have y1 : v2.cell? ⟨gb, 1, none⟩ = some (.int .i64 x.f1) := (blk_cell HY3.out 1).trans rfl
    generalize svIdx c.sv x.f0 = si at z2 ⊢
    go_wp2_with fail
    refine (H1.out _).mono ?_
    rintro e v3 ⟨rfl, hb1⟩
    have HX4 := Aside0.mk (blk_below HX3.out hb1)
    have HY4 := Aside0.mk (blk_below HY3.out hb1)
    have HB4 := Aside0.mk (below_step HB3.out hb1)
    have y2 : v3.cell? ⟨gb, 2, none⟩ = some (.int .i64 x.f2) := (blk_cell HY4.out 2).trans rfl
    clear hb1 y1 HX3 HY3 HB3
    go_wp2_with fail
    refine (H2.out _).mono ?_
    rintro e v4 ⟨rfl, hb1⟩
    have HX5 := Aside0.mk (blk_below HX4.out hb1)
    have HY5 := Aside0.mk (blk_below HY4.out hb1)
    have HB5 := Aside0.mk (below_step HB4.out hb1)
    have y3 : v4.cell? ⟨gb, 3, none⟩ = some (.int .i64 x.f3) := (blk_cell HY5.out 3).trans rfl
    clear hb1 y2 HX4 HY4 HB4
    go_wp2_with fail
    refine (H3.out _).mono ?_
    rintro e v5 ⟨rfl, hb1⟩
    have HX6 := Aside0.mk (blk_below HX5.out hb1)
    have HY6 := Aside0.mk (blk_below HY5.out hb1)
    have HB6 := Aside0.mk (below_step HB5.out hb1)
    have y4 : v5.cell? ⟨gb, 4, none⟩ = some (.int .i64 x.f4) := (blk_cell HY6.out 4).trans rfl
    clear hb1 y3 HX5 HY5 HB5
    go_wp2_with fail
    refine (H4.out _).mono ?_
    rintro e v6 ⟨rfl, hb1⟩
    have HX7 := Aside0.mk (blk_below HX6.out hb1)
    have HY7 := Aside0.mk (blk_below HY6.out hb1)
    have HB7 := Aside0.mk (below_step HB6.out hb1)
    have y5 : v6.cell? ⟨gb, 5, none⟩ = some (.slice A5 x.f5.length c5) := (blk_cell HY7.out 5).trans rfl
    clear hb1 y4 HX6 HY6 HB6
    have z5 : decide ((8 : Int) < (x.f5.length : Int)) = false := by simp; omega
    go_wp2_with fail
    go_roundg (c.sv.length - (i + 1))
    case measure => omega
    case rel => exact ⟨i + 1, by omega, by omega, by first | rfl | go_num, HX7, HB7⟩
  · have hz1 : decide (i < c.sv.length) = false := by simp; omega
    have hz2 : decide ((i : Int) < (c.sv.length : Int)) = false := by simp; omega
    clear hlt hi hgi
    have y1 : wr.cell? ⟨w.heap.size, 1, none⟩ = some (.slice A1 c.sv.length c1) := (blk_cell HX.out 1).trans rfl
    go_wp2_with fail
    clear y1
    go_loopg [5, 6, 8, 9, 58] c.sv.length (fun gg s5 s6 s8 s9 s58 wr => ∃ i : Nat, i ≤ c.sv.length ∧ c.sv.length - i ≤ gg ∧ s58 = .int .i64 (i : Int) ∧ Aside0 (wr.heap[w.heap.size]? = some (.cells (c.cells ⟨A1, c1, A2, c2, A3, c3, A4, c4⟩) 31 (0, 0))) ∧ Aside0 (Below w.heap.size w wr))
    case atStart => exact ⟨0, Nat.zero_le _, by omega, rfl, HX, HB⟩
    case round =>
    clear HX HB hz1 hz2
    obtain ⟨i, hi, hgi, rfl, HX, HB⟩ := hrel
    by_cases hlt : i < c.sv.length
    · have hsl := HV.out.slen i hlt
      have hcl := Aside0.mk (HV.out.scall i hlt)
      obtain ⟨ad, A5, c5, e, t0, t1, t2, t3, t4, t5, l5, k5⟩ := at_T64 HR.out.r1 (i : Int) (by omega) (by omega)
      dsimp only at e
      subst e
      simp only [Int.toNat_natCast] at t0 t1 t2 t3 t4 t5
      rw [rd64 c.sv i hlt] at t0 t1 t2 t3 t4 t5 l5 k5
      replace t0 := (HB.out.cell (World.block_lt_of_cell? _ _ t0)).trans t0
      replace t1 := (HB.out.cell (World.block_lt_of_cell? _ _ t1)).trans t1
      replace t2 := (HB.out.cell (World.block_lt_of_cell? _ _ t2)).trans t2
      replace t3 := (HB.out.cell (World.block_lt_of_cell? _ _ t3)).trans t3
      replace t4 := (HB.out.cell (World.block_lt_of_cell? _ _ t4)).trans t4
      replace t5 := (HB.out.cell (World.block_lt_of_cell? _ _ t5)).trans t5
      have K5 := Aside0.mk (Kd.C_below k5 HB.out)
      clear k5
      generalize c.sv[i] = x at hcl hsl t0 t1 t2 t3 t4 t5 l5 K5
      have hz1 : (i : Int) < (c.sv.length : Int) := by omega
      go_upto_region 16 with fail
      replace K5 := Aside0.mk (Kd.C_below K5.out (below_alloc (Below.refl _ _) (.cells #[.string x.f0, .int .i64 x.f1, .int .i64 x.f2, .int .i64 x.f3, .int .i64 x.f4, .slice A5 x.f5.length c5] 64)))
      have HX1 := Aside0.mk (blk_alloc HX.out (.cells #[.string x.f0, .int .i64 x.f1, .int .i64 x.f2, .int .i64 x.f3, .int .i64 x.f4, .slice A5 x.f5.length c5] 64))
      have HY1 := Aside0.mk (blk_new wr (.cells #[.string x.f0, .int .i64 x.f1, .int .i64 x.f2, .int .i64 x.f3, .int .i64 x.f4, .slice A5 x.f5.length c5] 64))
      have HB1 := Aside0.mk (below_alloc HB.out (.cells #[.string x.f0, .int .i64 x.f1, .int .i64 x.f2, .int .i64 x.f3, .int .i64 x.f4, .slice A5 x.f5.length c5] 64))
      clear t0 t1 t2 t3 t4 t5
      generalize hgb : wr.heap.size = gb at HY1 ⊢
      generalize wr.alloc (.cells #[.string x.f0, .int .i64 x.f1, .int .i64 x.f2, .int .i64 x.f3, .int .i64 x.f4, .slice A5 x.f5.length c5] 64) = v0 at HX1 HY1 HB1 K5 ⊢
      have y5 : v0.cell? ⟨gb, 5, none⟩ = some (.slice A5 x.f5.length c5) := (blk_cell HY1.out 5).trans rfl
      clear HY1
      go_wp2_with fail
      clear y5
      go_loopg [8, 9, 66] x.f5.length (fun gg s8 s9 s66 wr => ∃ j : Nat, j ≤ x.f5.length ∧ x.f5.length - j ≤ gg ∧ s66 = .int .i64 (j : Int) ∧ Aside0 (wr.heap[w.heap.size]? = some (.cells (c.cells ⟨(some ad), c1, A2, c2, A3, c3, A4, c4⟩) 31 (0, 0))) ∧ Aside0 (Below w.heap.size w wr) ∧ Aside0 (Kd.string.C wr A5 x.f5.length x.f5))
      case atStart => exact ⟨0, Nat.zero_le _, by omega, rfl, HX1, HB1, K5⟩
      case round =>
      clear HX1 HB1 K5 HX HB
      obtain ⟨j, hj, hgj, rfl, HX, HB, K5⟩ := hrel
      by_cases hlj : j < x.f5.length
      · obtain ⟨ad5, e5, u0⟩ := Kd.at_string K5.out (j : Int) (by omega) (by omega)
        subst e5
        simp only [Int.toNat_natCast] at u0
        have hlt2 := hcl.out (rdOf ByteArray.empty x.f5 (j : Int)) (by
          unfold rdOf
          rw [Int.toNat_natCast, List.getD_eq_getElem?_getD, List.getElem?_eq_getElem hlj]
          exact List.getElem_mem _)
        generalize rdOf ByteArray.empty x.f5 (j : Int) = nm at u0 hlt2
        have hz3 : (j : Int) < (x.f5.length : Int) := by omega
        go_upto_region 19 with fail
        clear u0
        obtain ⟨q0, q1, q2, q3, q4, q5, q6, q7, q8, q9, q10, q11⟩ := cfg12 HX.out
        go_wp2_with fail
        refine (index_calls c ⟨(some ad), c1, A2, c2, A3, c3, A4, c4⟩ nm _ (HR.out.below HB.out)).mono ?_
        rintro e v2 ⟨rfl, hb1⟩
        have HX3 := Aside0.mk (blk_below HX.out hb1)
        have HB3 := Aside0.mk (below_step HB.out hb1)
        have K53 := Aside0.mk (Kd.C_below K5.out hb1)
        clear hb1 HX HB K5 q0 q1 q2 q3 q4 q5 q6 q7 q8 q9 q10 q11
        have z2 : decide (svIdx c.sv nm < 0) = false := by simp; omega
        have z3 : decide (svIdx c.sv nm ≤ (i : Int)) = false := by simp; omega
        clear hlt2
        generalize svIdx c.sv nm = si at z2 z3 ⊢
        go_wp2_with fail
        go_roundg (x.f5.length - (j + 1))
        case measure => omega
        case rel => exact ⟨j + 1, by omega, by omega, by first | rfl | go_num, HX3, HB3, K53⟩
      · have hz3 : decide (j < x.f5.length) = false := by simp; omega
        have hz4 : decide ((j : Int) < (x.f5.length : Int)) = false := by simp; omega
        clear hlj
        go_wp2_with fail
        go_roundg (c.sv.length - (i + 1))
        case measure => omega
        case rel => exact ⟨i + 1, by omega, by omega, by first | rfl | go_num, HX, HB⟩
    · have hz1 : decide (i < c.sv.length) = false := by simp; omega
      have hz2 : decide ((i : Int) < (c.sv.length : Int)) = false := by simp; omega
      clear hlt
      go_wp2
      go_ret
      exact ⟨rfl, HB.out⟩
noncomputable def ckAll (k : Nat) (c : Cfg) : Option Int := open Classical in if Valid c then some 0 else none
theorem ckAll_ok {c : Cfg} (hv : Valid c) (k : Nat) : ckAll k c = some 0 := if_pos hv
set_option maxHeartbeats 4000000 in
set_option maxRecDepth 100000 in
theorem check_calls (k : Nat) (c : Cfg) (p : CfgAt) (r : Int) (w : World) (hR : CfgR w p c) (h : ckAll k c = some r) :
    Calls Try.prog 27 #[c.val p] w fun e w' => e = .returned (.int .i64 r) ∧ Below w.heap.size w w' := by
  have HR := Aside0.mk hR
  clear hR
  unfold ckAll at h
  split at h
  case isFalse => cases h
  case isTrue hv =>
  obtain rfl := Option.some.inj h
  have b0 := hv.seed0
  have b1 := hv.seed1
  have b2 := hv.n0
  have b3 := hv.n1
  have b4 := hv.nf
  have k1 : decide (c.seed < 0 ∨ 1048576 < c.seed) = false := by simp; omega
  have k2 : ((c.sv.length : Int) == 0) = false := by simp; intro h; simp [h] at b2
  have k3 : decide ((16 : Int) < (c.sv.length : Int)) = false := by simp; omega
  have k4 : decide ((16 : Int) < (c.fl.length : Int)) = false := by simp; omega
  have HV := Aside0.mk hv
  clear h hv b0 b1 b2 b3 b4
  go_enter Try.func27, Try.ntmps27
  go_wp2_with (go_at_call 52; refine (outside_calls _ _ _ _).mono ?_; rintro e w1 ⟨rfl, ⟨nd, rfl⟩⟩)
  have x0 : ∀ (a b c d e : Value) (W : World), (Instr.index 119 (.agg #[a, b, c, d, e]) (.int .i64 0)).run Try.prog W = .ok a W := fun _ _ _ _ _ _ => by kernel_rfl
  have x1 : ∀ (a b c d e : Value) (W : World), (Instr.index 119 (.agg #[a, b, c, d, e]) (.int .i64 1)).run Try.prog W = .ok b W := fun _ _ _ _ _ _ => by kernel_rfl
  have x2 : ∀ (a b c d e : Value) (W : World), (Instr.index 119 (.agg #[a, b, c, d, e]) (.int .i64 2)).run Try.prog W = .ok c W := fun _ _ _ _ _ _ => by kernel_rfl
  have x3 : ∀ (a b c d e : Value) (W : World), (Instr.index 119 (.agg #[a, b, c, d, e]) (.int .i64 3)).run Try.prog W = .ok d W := fun _ _ _ _ _ _ => by kernel_rfl
  have x4 : ∀ (a b c d e : Value) (W : World), (Instr.index 119 (.agg #[a, b, c, d, e]) (.int .i64 4)).run Try.prog W = .ok e W := fun _ _ _ _ _ _ => by kernel_rfl
  go_loopg [38] 5 (fun gg s38 wr => ∃ (i : Nat), i ≤ 5 ∧ 5 - i ≤ gg ∧ s38 = .int .i64 i ∧ Aside0 (wr.heap[w.heap.size]? = some (.cells (c.cells p) 31 (0, 0))) ∧ Aside0 (Below w.heap.size w wr))
  case atStart =>
    refine ⟨0, by omega, by omega, by rfl, ⟨?_⟩, ⟨?_⟩⟩
    · repeat (first | (with_reducible exact blk_new w _) | (with_reducible refine blk_drewN ?_ _) | (with_reducible refine blk_drew ?_) | (with_reducible refine blk_alloc ?_ _))
    · repeat (first | exact Below.refl _ _ | apply below_alloc | apply pw_below_drewN)
  case round =>
    obtain ⟨i, hi, hgi, rfl, BK, HB⟩ := hrel
    by_cases hlt : i < 5
    · match i, hlt with
      | 0, _ =>
        go_wp2_with fail
        refine (ckS_walk c p _ (HR.out.below HB.out) HV.out).mono ?_
        rintro e w1 ⟨rfl, hb1⟩
        go_wp2_with fail
        go_roundg (5 - (0 + 1))
        case measure => omega
        case rel => exact ⟨0 + 1, by omega, by omega, by rfl, ⟨blk_below BK.out hb1⟩, ⟨below_step HB.out hb1⟩⟩
      | 1, _ =>
        go_wp2_with fail
        refine (ckO_walk c p _ (HR.out.below HB.out) HV.out).mono ?_
        rintro e w1 ⟨rfl, hb1⟩
        go_wp2_with fail
        go_roundg (5 - (1 + 1))
        case measure => omega
        case rel => exact ⟨1 + 1, by omega, by omega, by rfl, ⟨blk_below BK.out hb1⟩, ⟨below_step HB.out hb1⟩⟩
      | 2, _ =>
        have HC := Aside0.mk (ckD_calls c p w.heap.size wr (HR.out.below HB.out) BK.out)
        rw [HV.out.ch] at HC
        go_wp2_with fail
        refine HC.out.mono ?_
        rintro e w1 ⟨rfl, hb1⟩
        go_wp2_with fail
        go_roundg (5 - (2 + 1))
        case measure => omega
        case rel => exact ⟨2 + 1, by omega, by omega, by rfl, ⟨blk_below BK.out hb1⟩, ⟨below_step HB.out hb1⟩⟩
      | 3, _ =>
        go_wp2_with fail
        refine (ckF_walk c p _ (HR.out.below HB.out) HV.out).mono ?_
        rintro e w1 ⟨rfl, hb1⟩
        go_wp2_with fail
        go_roundg (5 - (3 + 1))
        case measure => omega
        case rel => exact ⟨3 + 1, by omega, by omega, by rfl, ⟨blk_below BK.out hb1⟩, ⟨below_step HB.out hb1⟩⟩
      | 4, _ =>
        go_wp2_with fail
        refine (ckR_walk c p _ (HR.out.below HB.out) HV.out).mono ?_
        rintro e w1 ⟨rfl, hb1⟩
        go_wp2_with fail
        go_roundg (5 - (4 + 1))
        case measure => omega
        case rel => exact ⟨4 + 1, by omega, by omega, by rfl, ⟨blk_below BK.out hb1⟩, ⟨below_step HB.out hb1⟩⟩
    · obtain rfl : i = 5 := by omega
      go_wp2_with fail
      go_ret
      exact ⟨by rfl, HB.out⟩
end Go.Proofs.Ytdadnapfecmmdaa.P
namespace Go.Proofs.Ytdadnapfecmmdaa.P
set_option linter.unusedVariables false
set_option linter.unusedSimpArgs false
open Go.RowKit Go.Proofs.YtdadnapfecmmdaaW.PrintWords Go.Proofs.YtdadnapfecmmdaaW.PrintLast Go.Proofs.YtdadnapfecmmdaaW.PrintMore
structure Sp where
  tr : Int
  id : Int
  par : Int
  rev : Int
  clk : Int
  kind : Int
  svc : ByteArray
  ver : ByteArray
  op : ByteArray
  st : Int
  en : Int
  err : Bool
def Sp.cells (s : Sp) : List Value := [.int .i64 s.tr, .int .i64 s.id, .int .i64 s.par, .int .i64 s.rev, .int .i64 s.clk, .int .i64 s.kind, .string s.svc, .string s.ver, .string s.op, .int .i64 s.st, .int .i64 s.en, .bool s.err, .slice none 0 0, .slice none 0 0]
theorem Sp.cells_len (s : Sp) : s.cells.length = 14 := rfl
def spc : List Sp → List Value
  | [] => []
  | s :: r => s.cells ++ spc r
theorem spc_len (l : List Sp) : (spc l).length = l.length * 14 := by
  induction l with
  | nil => rfl
  | cons s r ih => simp only [spc, List.length_append, Sp.cells_len, ih, List.length_cons]; omega
theorem spc_snoc (l : List Sp) (s : Sp) : spc (l ++ [s]) = spc l ++ s.cells := by
  induction l with
  | nil => simp [spc]
  | cons a r ih => simp [spc, ih]
theorem spc_get (l : List Sp) (j i : Nat) (hj : j < l.length) (hi : i < 14) : (spc l)[j * 14 + i]? = (l[j].cells)[i]? := by
  induction l generalizing j with
  | nil => simp at hj
  | cons a r ih =>
    cases j with
    | zero =>
      simp only [spc, Nat.zero_mul, Nat.zero_add, List.getElem_cons_zero]
      rw [List.getElem?_append_left (by rw [Sp.cells_len]; exact hi)]
    | succ j =>
      simp only [spc, List.getElem_cons_succ]
      rw [List.getElem?_append_right (by rw [Sp.cells_len]; omega), Sp.cells_len, show (j + 1) * 14 + i - 14 = j * 14 + i from by omega]
      exact ih j (by simpa using hj)
theorem spc_set (l : List Sp) (j i : Nat) (u : Value) (s : Sp) (hj : j < l.length) (hi : i < 14) (hs : (l[j].cells).set i u = s.cells) : (spc l).set (j * 14 + i) u = spc (l.set j s) := by
  induction l generalizing j with
  | nil => simp at hj
  | cons a r ih =>
    cases j with
    | zero =>
      simp only [spc, Nat.zero_mul, Nat.zero_add, List.set_cons_zero]
      rw [List.set_append_left _ _ (by rw [Sp.cells_len]; exact hi)]
      simp only [List.getElem_cons_zero] at hs
      rw [hs]
    | succ j =>
      simp only [spc, List.set_cons_succ]
      rw [List.set_append_right _ _ (by rw [Sp.cells_len]; omega), Sp.cells_len, show (j + 1) * 14 + i - 14 = j * 14 + i from by omega]
      rw [ih j (by simpa using hj) (by simpa using hs)]
def SpR (W : World) (g base : Nat) (l : List Sp) : Prop := ∃ v, W.heap[g]? = some (.cells #[v] 49 (0, 0)) ∧ W.ownsRow base 56 14 v l.length (spc l)
def KeepT (W W' : World) (g : Nat) : Prop := W.heap.size ≤ W'.heap.size ∧ ∀ i, i < W.heap.size → i ≠ g → (∀ cs fr, W.heap[i]? ≠ some (.cells cs 56 fr)) → W'.heap[i]? = W.heap[i]?
theorem KeepT.refl (W : World) (g : Nat) : KeepT W W g := ⟨Nat.le_refl _, fun _ _ _ _ => rfl⟩
theorem KeepT.trans {W W1 W2 : World} {g : Nat} (h : KeepT W W1 g) (k : KeepT W1 W2 g) : KeepT W W2 g :=
  ⟨Nat.le_trans h.1 k.1, fun i hi hg hn => by
    have h1 := h.2 i hi hg hn
    rw [k.2 i (Nat.lt_of_lt_of_le hi h.1) hg (fun cs fr => by rw [h1]; exact hn cs fr), h1]⟩
theorem KeepT.of_below {W W1 : World} (h : Below W.heap.size W W1) (g : Nat) : KeepT W W1 g := ⟨h.size, fun i hi _ _ => h.block i hi⟩
theorem KeepT.blk {W W' : World} {g b : Nat} {o : Obj} (h : KeepT W W' g) (hb : W.heap[b]? = some o) (hg : b ≠ g) (ho : ∀ cs fr, o ≠ .cells cs 56 fr) : W'.heap[b]? = some o :=
  (h.2 b (blk_lt hb) hg (fun cs fr => by rw [hb]; intro e; exact ho cs fr (Option.some.inj e))).trans hb
theorem KeepT.cellsBlk {W W' : World} {g b : Nat} {cs : Array Value} {t : TypeId} (h : KeepT W W' g) (hb : W.heap[b]? = some (.cells cs t (0, 0))) (hg : b ≠ g) (ht : t ≠ 56) : W'.heap[b]? = some (.cells cs t (0, 0)) :=
  h.blk hb hg (fun _ _ e => by injection e with _ e2; exact ht e2)
theorem KeepT.grown {W W' : World} {g : Nat} {v : Value} {base n : Nat} {xs : List Value} (hv : W.ownsRow base 56 14 v n xs) (h : W.grownBy W' v.ownBlock) : KeepT W W' g :=
  ⟨h.size, fun i hi _ hn => h.block i hi (fun e => by
    obtain ⟨cells, hc⟩ := own_typed hv i e.symm
    exact hn cells (0, 0) hc)⟩
abbrev svCells (x : S64) (A5 : Option Addr) (c5 : Nat) : Array Value := #[.string x.f0, .int .i64 x.f1, .int .i64 x.f2, .int .i64 x.f3, .int .i64 x.f4, .slice A5 x.f5.length c5]
set_option maxHeartbeats 4000000 in
set_option maxRecDepth 100000 in
theorem begin_calls (W w0 : World) (bsp bt base : Nat) (t : Int) (l : List Sp) (x : S64) (A5 : Option Addr) (c5 : Nat) (parent kind at_ : Int) (op ver : ByteArray)
    (hT : W.heap[bt]? = some (.cells #[.int .i64 t] 3 (0, 0))) (hS : SpR W bsp base l) (hbb : base ≤ bsp) (hlen : l.length < 1000) (hB : Below base w0 W) (hbase : base ≤ W.heap.size) :
    Calls Try.prog 85 #[.agg (svCells x A5 c5), .int .i64 parent, .int .i64 kind, .int .i64 at_, .string op, .string ver, .pointer (some ⟨bsp, 0, none⟩), .pointer (some ⟨bt, 0, none⟩)] W fun e w' =>
      e = .returned (.int .i64 ((l.length : Int) + 1)) ∧ SpR w' bsp base (l ++ [⟨t, (l.length : Int) + 1, parent, 0, x.f1, kind, x.f0, ver, op, at_, 0, false⟩]) ∧ KeepT W w' bsp ∧ Below base w0 w' := by
  obtain ⟨v, hv, hown⟩ := hS
  obtain ⟨A, cp, rfl⟩ := own_slice hown
  have qT : W.cell? ⟨bt, 0, none⟩ = some (.int .i64 t) := (blk_cell hT 0).trans rfl
  have qS : W.cell? ⟨bsp, 0, none⟩ = some (.slice A l.length cp) := (blk_cell hv 0).trans rfl
  have hlt1 := blk_lt hT
  have hlt2 := blk_lt hv
  have HV := Aside0.mk hv
  have HO := Aside0.mk hown
  have HB := Aside0.mk hB
  have HT := Aside0.mk hT
  have hne1 : bt ≠ W.heap.size := by omega
  have hne2 : bsp ≠ W.heap.size := by omega
  clear hv hown hB hT
  obtain ⟨f0, f1, f2, f3, f4, f5⟩ := x
  unfold svCells
  dsimp only
  generalize f5.length = n5
  have hneq : ∀ _ : Unit, some bsp ≠ (Value.slice A l.length cp).ownBlock := fun _ => own_ne HO.out HV.out (by decide)
  have hvb : ∀ o : Obj, (W.alloc o).heap[bsp]? = some (.cells #[.slice A l.length cp] 49 (0, 0)) := fun o => blk_alloc HV.out o
  have EO := Aside0.mk (spc_snoc l ⟨t, (l.length : Int) + 1, parent, 0, f1, kind, f0, ver, op, at_, 0, false⟩)
  go_enter Try.func85, Try.ntmps85
  go_wp2_with (at_builtin; go_must (refine print_append_cells (w0 := w0) base rfl _ _ 49 56 _ 14 168 rfl Try.underlying49 info56 rfl (by decide) (by decide) (.slice A l.length cp) l.length (spc l) [.int .i64 t, .int .i64 ((l.length : Int) + 1), .int .i64 parent, .int .i64 0, .int .i64 f1, .int .i64 kind, .string f0, .string ver, .string op, .int .i64 at_, .int .i64 0, .bool false, .slice none 0 0, .slice none 0 0] rfl ?c4 rfl ?c1 (HO.out.alloc _) (HB.out.alloc hbase _) ?c2 ?c3 ?_; (case c1 => intro u hu; simp at hu; rcases hu with rfl | rfl | rfl | rfl | rfl | rfl | rfl | rfl | rfl | rfl | rfl | rfl | rfl | rfl <;> rfl); (case c4 => show Value.slice (some ⟨W.heap.size + 1, 0, none⟩) 1 1 = _; simp); (case c2 => simp; omega); (case c3 => omega); intro v1 w1 hown1 hb1 hg1 hat1; obtain ⟨A1, cp1, rfl⟩ := own_slice hown1; have HW := Aside0.mk hown1; have HG := Aside0.mk hg1; have HB1 := Aside0.mk hb1; have hvv : w1.heap[bsp]? = some (.cells #[.slice A l.length cp] 49 (0, 0)) := hg1.block bsp (by simp; omega) (hneq ()) |>.trans (hvb _); have qv : w1.cell? ⟨bsp, 0, none⟩ = some (.slice A l.length cp) := (blk_cell hvv 0).trans rfl; have fv := blk_frozen hvv 0; have HVV := Aside0.mk hvv; clear hown1 hg1 hb1 hat1 hvv))
  go_ret
  have hne : some bsp ≠ (Value.slice A1 (l.length + 1) cp1).ownBlock := own_ne HW.out HVV.out (by decide)
  refine ⟨by rfl, ⟨.slice A1 (l.length + 1) cp1, ?_, ?_⟩, ?_, ?_⟩
  · have h := blk_set HVV.out 0 (.slice A1 (l.length + 1) cp1)
    simpa using h
  · rw [EO.out, List.length_append, List.length_singleton]
    exact own_setCell HW.out hne _
  · refine ((KeepT.of_below (below_alloc (Below.refl _ _) _) bsp).trans (KeepT.grown (HO.out.alloc _) HG.out)).trans ⟨by simp, fun i _ hi _ => Below.heap_setCell _ _ _ i hi⟩
  · exact HB1.out.setCell hbb _
end Go.Proofs.Ytdadnapfecmmdaa.P
namespace Go.Proofs.Ytdadnapfecmmdaa.P
open Go.RowKit Go.Proofs.YtdadnapfecmmdaaW.PrintWords Go.Proofs.YtdadnapfecmmdaaW.PrintLast Go.Proofs.YtdadnapfecmmdaaW.PrintMore
attribute [local go_sem] max2_int min2_int max_two min_two max_three min_three max_four min_four   -- for this text's walks alone
set_option linter.unusedVariables false
set_option linter.unusedSimpArgs false
def checksum_Word.f (a0 : Int) (a1 : Int) : Option (Int) := some (Go.bits .xor .u64 (IntKind.u64.wrap ((Go.bits .xor .u64 (IntKind.u64.wrap ((Go.bits .xor .u64 (IntKind.u64.wrap ((IntKind.u64.wrap (a0 * 11400714819323198485)) + a1)) ((IntKind.u64.wrap ((IntKind.u64.wrap (a0 * 11400714819323198485)) + a1)) / 1073741824)) * 13787848793156543929)) ((IntKind.u64.wrap ((Go.bits .xor .u64 (IntKind.u64.wrap ((IntKind.u64.wrap (a0 * 11400714819323198485)) + a1)) ((IntKind.u64.wrap ((IntKind.u64.wrap (a0 * 11400714819323198485)) + a1)) / 1073741824)) * 13787848793156543929)) / 134217728)) * 10723151780598845931)) ((IntKind.u64.wrap ((Go.bits .xor .u64 (IntKind.u64.wrap ((Go.bits .xor .u64 (IntKind.u64.wrap ((IntKind.u64.wrap (a0 * 11400714819323198485)) + a1)) ((IntKind.u64.wrap ((IntKind.u64.wrap (a0 * 11400714819323198485)) + a1)) / 1073741824)) * 13787848793156543929)) ((IntKind.u64.wrap ((Go.bits .xor .u64 (IntKind.u64.wrap ((IntKind.u64.wrap (a0 * 11400714819323198485)) + a1)) ((IntKind.u64.wrap ((IntKind.u64.wrap (a0 * 11400714819323198485)) + a1)) / 1073741824)) * 13787848793156543929)) / 134217728)) * 10723151780598845931)) / 2147483648))
set_option maxHeartbeats 8000000 in
set_option maxRecDepth 100000 in
theorem checksum_Word.calls (a0 : Int) (a1 : Int) (r : Int) (w : World) (h : checksum_Word.f a0 a1 = some r) :
    Calls Try.prog 65 #[.int .u64 a0, .int .u64 a1] w fun e w' => e = .returned (.int .u64 r) ∧ Drawn0 w w' := by
  have H : (some (Go.bits .xor .u64 (IntKind.u64.wrap ((Go.bits .xor .u64 (IntKind.u64.wrap ((Go.bits .xor .u64 (IntKind.u64.wrap ((IntKind.u64.wrap (a0 * 11400714819323198485)) + a1)) ((IntKind.u64.wrap ((IntKind.u64.wrap (a0 * 11400714819323198485)) + a1)) / 1073741824)) * 13787848793156543929)) ((IntKind.u64.wrap ((Go.bits .xor .u64 (IntKind.u64.wrap ((IntKind.u64.wrap (a0 * 11400714819323198485)) + a1)) ((IntKind.u64.wrap ((IntKind.u64.wrap (a0 * 11400714819323198485)) + a1)) / 1073741824)) * 13787848793156543929)) / 134217728)) * 10723151780598845931)) ((IntKind.u64.wrap ((Go.bits .xor .u64 (IntKind.u64.wrap ((Go.bits .xor .u64 (IntKind.u64.wrap ((IntKind.u64.wrap (a0 * 11400714819323198485)) + a1)) ((IntKind.u64.wrap ((IntKind.u64.wrap (a0 * 11400714819323198485)) + a1)) / 1073741824)) * 13787848793156543929)) ((IntKind.u64.wrap ((Go.bits .xor .u64 (IntKind.u64.wrap ((IntKind.u64.wrap (a0 * 11400714819323198485)) + a1)) ((IntKind.u64.wrap ((IntKind.u64.wrap (a0 * 11400714819323198485)) + a1)) / 1073741824)) * 13787848793156543929)) / 134217728)) * 10723151780598845931)) / 2147483648))) = some r := h
  clear h
  obtain rfl := Option.some.inj H
  go_enter Try.func65, Try.ntmps65
  go_wp2
  go_ret
  exact ⟨by first | rfl | (simp; done) | (simp [*]; done), by repeat (first | exact Drawn0.refl _ | apply Drawn0.step)⟩
def checksum_Mix.f (a0 : Int) (a1 : Int) : Option (Int) := (checksum_Word.f (IntKind.u64.wrap (a0)) (IntKind.u64.wrap (a1))).bind fun t111 => (some (wrap64 (t111 / 4)))
set_option maxHeartbeats 8000000 in
set_option maxRecDepth 100000 in
theorem checksum_Mix.calls (a0 : Int) (a1 : Int) (r : Int) (w : World) (h : checksum_Mix.f a0 a1 = some r) :
    Calls Try.prog 33 #[.int .i64 a0, .int .i64 a1] w fun e w' => e = .returned (.int .i64 r) ∧ Drawn0 w w' := by
  have H : ((checksum_Word.f (IntKind.u64.wrap (a0)) (IntKind.u64.wrap (a1))).bind fun t111 => (some (wrap64 (t111 / 4)))) = some r := h
  clear h
  replace H := Option.bind_eq_some_iff.mp H
  obtain ⟨t111, A30, H⟩ := H
  replace H : (some (wrap64 (t111 / 4))) = some r := H
  have A3 := Aside0.mk A30
  clear A30
  obtain rfl := Option.some.inj H
  go_enter Try.func33, Try.ntmps33
  go_wp2_with (first | ((with_reducible refine gate_callee (f := 65) rfl ?_); refine goesL_ (some 9) rfl rfl Try.func65 (by kernel_rfl) rfl #[.int .u64 (IntKind.u64.wrap (a0)), .int .u64 (IntKind.u64.wrap (a1))] rfl (by (try simp only [List.map_toArray, List.map_cons, List.map_nil]); first | done | rfl | (simp only [List.length_drop, List.length_take]; rfl)) ?_; (with_reducible refine (checksum_Word.calls (IntKind.u64.wrap (a0)) (IntKind.u64.wrap (a1)) t111 _ A3.out).mono ?_); rintro e w' ⟨rfl, ⟨nd, rfl⟩⟩; refine ⟨_, rfl, ?_⟩))
  go_ret
  exact ⟨by first | rfl | (simp; done) | (simp [*]; done), by repeat (first | exact Drawn0.refl _ | apply Drawn0.step)⟩
def simulate_Roll.f (a0_0 : Int) (l0_1 : List (S64)) (l0_2 : List (S91)) (l0_3 : List (S100)) (l0_4 : List (S61)) (a0_5 : Int) (a0_6 : Int) (a0_7 : Int) (a0_8 : Int) (a0_9 : Int) (a0_10 : Int) (a0_11 : Int) (a1 : Int) (a2 : Int) (a3 : Int) : Option (Int) := (checksum_Mix.f a0_0 a1).bind fun t113 => ((checksum_Mix.f t113 a2).bind fun t114 => ((checksum_Mix.f t114 a3).bind fun t115 => (some t115)))
set_option maxHeartbeats 8000000 in
set_option maxRecDepth 100000 in
theorem simulate_Roll.calls (a0_0 : Int) (A0_1 : Option Addr) (c0_1 : Nat) (l0_1 : List (S64)) (A0_2 : Option Addr) (c0_2 : Nat) (l0_2 : List (S91)) (A0_3 : Option Addr) (c0_3 : Nat) (l0_3 : List (S100)) (A0_4 : Option Addr) (c0_4 : Nat) (l0_4 : List (S61)) (a0_5 : Int) (a0_6 : Int) (a0_7 : Int) (a0_8 : Int) (a0_9 : Int) (a0_10 : Int) (a0_11 : Int) (a1 : Int) (a2 : Int) (a3 : Int) (r : Int) (w : World) (hr0_1 : Kd.C k64 w A0_1 l0_1.length l0_1) (hc0_1 : l0_1.length ≤ c0_1) (hr0_2 : Kd.C k91 w A0_2 l0_2.length l0_2) (hc0_2 : l0_2.length ≤ c0_2) (hr0_3 : Kd.C k100 w A0_3 l0_3.length l0_3) (hc0_3 : l0_3.length ≤ c0_3) (hr0_4 : Kd.C k61 w A0_4 l0_4.length l0_4) (hc0_4 : l0_4.length ≤ c0_4) (h : simulate_Roll.f a0_0 l0_1 l0_2 l0_3 l0_4 a0_5 a0_6 a0_7 a0_8 a0_9 a0_10 a0_11 a1 a2 a3 = some r) :
    Calls Try.prog 10 #[.agg #[.int .i64 a0_0, .slice A0_1 l0_1.length c0_1, .slice A0_2 l0_2.length c0_2, .slice A0_3 l0_3.length c0_3, .slice A0_4 l0_4.length c0_4, .int .i64 a0_5, .int .i64 a0_6, .int .i64 a0_7, .int .i64 a0_8, .int .i64 a0_9, .int .i64 a0_10, .int .i64 a0_11], .int .i64 a1, .int .i64 a2, .int .i64 a3] w fun e w' => e = .returned (.int .i64 r) ∧ Below w.heap.size w w' := by
  have hu31 := Try.underlying31
  have HR0_1 := Aside0.mk hr0_1
  have HC0_1 := Aside0.mk hc0_1
  clear hr0_1 hc0_1
  have HR0_2 := Aside0.mk hr0_2
  have HC0_2 := Aside0.mk hc0_2
  clear hr0_2 hc0_2
  have HR0_3 := Aside0.mk hr0_3
  have HC0_3 := Aside0.mk hc0_3
  clear hr0_3 hc0_3
  have HR0_4 := Aside0.mk hr0_4
  have HC0_4 := Aside0.mk hc0_4
  clear hr0_4 hc0_4
  have HB := Aside0.mk (Below.refl w.heap.size w)
  have H : ((checksum_Mix.f a0_0 a1).bind fun t113 => ((checksum_Mix.f t113 a2).bind fun t114 => ((checksum_Mix.f t114 a3).bind fun t115 => (some t115)))) = some r := h
  clear h
  replace H := Option.bind_eq_some_iff.mp H
  obtain ⟨t113, A50, H⟩ := H
  replace H : ((checksum_Mix.f t113 a2).bind fun t114 => ((checksum_Mix.f t114 a3).bind fun t115 => (some t115))) = some r := H
  have A5 := Aside0.mk A50
  clear A50
  replace H := Option.bind_eq_some_iff.mp H
  obtain ⟨t114, A60, H⟩ := H
  replace H : ((checksum_Mix.f t114 a3).bind fun t115 => (some t115)) = some r := H
  have A6 := Aside0.mk A60
  clear A60
  replace H := Option.bind_eq_some_iff.mp H
  obtain ⟨t115, A70, H⟩ := H
  replace H : (some t115) = some r := H
  have A7 := Aside0.mk A70
  clear A70
  obtain rfl := Option.some.inj H
  go_enter Try.func10, Try.ntmps10
  go_wp2_with (first | ((with_reducible refine gate_dst (N := 4) rfl ?_); refine box_event ?hg (N := 4) ?hd (cs := #[.int .i64 a0_0, .slice A0_1 l0_1.length c0_1, .slice A0_2 l0_2.length c0_2, .slice A0_3 l0_3.length c0_3, .slice A0_4 l0_4.length c0_4, .int .i64 a0_5, .int .i64 a0_6, .int .i64 a0_7, .int .i64 a0_8, .int .i64 a0_9, .int .i64 a0_10, .int .i64 a0_11]) (t := 31) ?hr ?_; (case hd => rfl); (case hg => rfl); (case hr => first | (go_simp; done) | (go_simp; rfl)); intro gb112 hg w8 hbox hb; have n0_ := Aside0.mk (below_step (by repeat (first | (with_reducible first | exact HB.out | apply below_alloc | apply pw_below_drewN | apply below_drew1) | exact HB.out)) hb); have n1_ := Aside0.mk (hbox); have n2_ := Aside0.mk ((by rw [hg]; exact (below_size (by repeat (first | (with_reducible first | exact HB.out | apply below_alloc | apply pw_below_drewN | apply below_drew1) | exact HB.out))) : w.heap.size ≤ gb112)); have n3_ := Aside0.mk ((by rw [hg]; exact (below_size (by repeat (first | (with_reducible first | exact HB.out | apply below_alloc | apply pw_below_drewN | apply below_drew1) | exact HB.out))) : w.heap.size ≤ gb112)); clear HB; have HB := n0_; have BK112 := n1_; have GW112 := n2_; have GE112 := n3_; clear n0_ n1_ n2_ n3_; clear hb hbox hg; have hcz9_0 : w8.cell? ⟨gb112, 0, none⟩ = some (.int .i64 a0_0) := (blk_cell BK112.out 0).trans rfl; have hcz9_1 : w8.cell? ⟨gb112, 1, none⟩ = some (.slice A0_1 l0_1.length c0_1) := (blk_cell BK112.out 1).trans rfl; have hcz9_2 : w8.cell? ⟨gb112, 2, none⟩ = some (.slice A0_2 l0_2.length c0_2) := (blk_cell BK112.out 2).trans rfl; have hcz9_3 : w8.cell? ⟨gb112, 3, none⟩ = some (.slice A0_3 l0_3.length c0_3) := (blk_cell BK112.out 3).trans rfl; have hcz9_4 : w8.cell? ⟨gb112, 4, none⟩ = some (.slice A0_4 l0_4.length c0_4) := (blk_cell BK112.out 4).trans rfl; have hcz9_5 : w8.cell? ⟨gb112, 5, none⟩ = some (.int .i64 a0_5) := (blk_cell BK112.out 5).trans rfl; have hcz9_6 : w8.cell? ⟨gb112, 6, none⟩ = some (.int .i64 a0_6) := (blk_cell BK112.out 6).trans rfl; have hcz9_7 : w8.cell? ⟨gb112, 7, none⟩ = some (.int .i64 a0_7) := (blk_cell BK112.out 7).trans rfl; have hcz9_8 : w8.cell? ⟨gb112, 8, none⟩ = some (.int .i64 a0_8) := (blk_cell BK112.out 8).trans rfl; have hcz9_9 : w8.cell? ⟨gb112, 9, none⟩ = some (.int .i64 a0_9) := (blk_cell BK112.out 9).trans rfl; have hcz9_10 : w8.cell? ⟨gb112, 10, none⟩ = some (.int .i64 a0_10) := (blk_cell BK112.out 10).trans rfl; have hcz9_11 : w8.cell? ⟨gb112, 11, none⟩ = some (.int .i64 a0_11) := (blk_cell BK112.out 11).trans rfl; have hfz9_0 := blk_frozen BK112.out 0; have hfz9_1 := blk_frozen BK112.out 1; have hfz9_2 := blk_frozen BK112.out 2; have hfz9_3 := blk_frozen BK112.out 3; have hfz9_4 := blk_frozen BK112.out 4; have hfz9_5 := blk_frozen BK112.out 5; have hfz9_6 := blk_frozen BK112.out 6; have hfz9_7 := blk_frozen BK112.out 7; have hfz9_8 := blk_frozen BK112.out 8; have hfz9_9 := blk_frozen BK112.out 9; have hfz9_10 := blk_frozen BK112.out 10; have hfz9_11 := blk_frozen BK112.out 11) | ((with_reducible refine gate_callee (f := 33) rfl ?_); refine goesL_ (some 12) rfl rfl Try.func33 (by kernel_rfl) rfl #[.int .i64 a0_0, .int .i64 a1] rfl (by (try simp only [List.map_toArray, List.map_cons, List.map_nil]); first | done | rfl | (simp only [List.length_drop, List.length_take]; rfl)) ?_; (with_reducible refine (checksum_Mix.calls a0_0 a1 t113 _ A5.out).mono ?_); rintro e w' ⟨rfl, ⟨nd, rfl⟩⟩; refine ⟨_, rfl, ?_⟩) | ((with_reducible refine gate_callee (f := 33) rfl ?_); refine goesL_ (some 14) rfl rfl Try.func33 (by kernel_rfl) rfl #[.int .i64 t113, .int .i64 a2] rfl (by (try simp only [List.map_toArray, List.map_cons, List.map_nil]); first | done | rfl | (simp only [List.length_drop, List.length_take]; rfl)) ?_; (with_reducible refine (checksum_Mix.calls t113 a2 t114 _ A6.out).mono ?_); rintro e w' ⟨rfl, ⟨nd, rfl⟩⟩; refine ⟨_, rfl, ?_⟩) | ((with_reducible refine gate_callee (f := 33) rfl ?_); refine goesL_ (some 16) rfl rfl Try.func33 (by kernel_rfl) rfl #[.int .i64 t114, .int .i64 a3] rfl (by (try simp only [List.map_toArray, List.map_cons, List.map_nil]); first | done | rfl | (simp only [List.length_drop, List.length_take]; rfl)) ?_; (with_reducible refine (checksum_Mix.calls t114 a3 t115 _ A7.out).mono ?_); rintro e w' ⟨rfl, ⟨nd, rfl⟩⟩; refine ⟨_, rfl, ?_⟩))
  go_ret
  exact ⟨by first | rfl | (simp [errW_none, errW_some] <;> rfl) | (simp [*, errW_none, errW_some] <;> rfl), by repeat (first | (with_reducible first | exact HB.out | apply below_alloc | apply pw_below_drewN | apply below_drew1 | refine below_set ?_ GE112.out) | exact HB.out)⟩
def deployment_has.f (a0_0 : Int) (a0_1 : Int) (a1 : Int) : Option (Bool) := if a0_0 ≤ a1 then (some (decide (a1 < a0_1))) else (some false)
set_option maxHeartbeats 8000000 in
set_option maxRecDepth 100000 in
theorem deployment_has.calls (a0_0 : Int) (a0_1 : Int) (a1 : Int) (r : Bool) (w : World) (h : deployment_has.f a0_0 a0_1 a1 = some r) :
    Calls Try.prog 71 #[.agg #[.int .i64 a0_0, .int .i64 a0_1], .int .i64 a1] w fun e w' => e = .returned (.bool r) ∧ Below w.heap.size w w' := by
  have hu29 := Try.underlying29
  have HB := Aside0.mk (Below.refl w.heap.size w)
  have H : (if a0_0 ≤ a1 then (some (decide (a1 < a0_1))) else (some false)) = some r := h
  clear h
  by_cases c3 : a0_0 ≤ a1
  · rw [if_pos c3] at H
    have c3b0 : decide (a0_0 ≤ a1) = true := decide_eq_true c3
    clear c3
    obtain rfl := Option.some.inj H
    go_enter Try.func71, Try.ntmps71
    go_wp2_with (first | ((with_reducible refine gate_dst (N := 2) rfl ?_); refine box_event ?hg (N := 2) ?hd (cs := #[.int .i64 a0_0, .int .i64 a0_1]) (t := 29) ?hr ?_; (case hd => rfl); (case hg => rfl); (case hr => first | (go_simp; done) | (go_simp; rfl)); intro gb139 hg w4 hbox hb; have n0_ := Aside0.mk (below_step (by repeat (first | (with_reducible first | exact HB.out | apply below_alloc | apply pw_below_drewN | apply below_drew1) | exact HB.out)) hb); have n1_ := Aside0.mk (hbox); have n2_ := Aside0.mk ((by rw [hg]; exact (below_size (by repeat (first | (with_reducible first | exact HB.out | apply below_alloc | apply pw_below_drewN | apply below_drew1) | exact HB.out))) : w.heap.size ≤ gb139)); have n3_ := Aside0.mk ((by rw [hg]; exact (below_size (by repeat (first | (with_reducible first | exact HB.out | apply below_alloc | apply pw_below_drewN | apply below_drew1) | exact HB.out))) : w.heap.size ≤ gb139)); clear HB; have HB := n0_; have BK139 := n1_; have GW139 := n2_; have GE139 := n3_; clear n0_ n1_ n2_ n3_; clear hb hbox hg; have hcz5_0 : w4.cell? ⟨gb139, 0, none⟩ = some (.int .i64 a0_0) := (blk_cell BK139.out 0).trans rfl; have hcz5_1 : w4.cell? ⟨gb139, 1, none⟩ = some (.int .i64 a0_1) := (blk_cell BK139.out 1).trans rfl; have hfz5_0 := blk_frozen BK139.out 0; have hfz5_1 := blk_frozen BK139.out 1))
    go_ret
    exact ⟨by first | rfl | (simp [errW_none, errW_some] <;> rfl) | (simp [*, errW_none, errW_some] <;> rfl), by repeat (first | (with_reducible first | exact HB.out | apply below_alloc | apply pw_below_drewN | apply below_drew1 | refine below_set ?_ GE139.out) | exact HB.out)⟩
  · rw [if_neg c3] at H
    have c3b0 : decide (a0_0 ≤ a1) = false := decide_eq_false c3
    clear c3
    obtain rfl := Option.some.inj H
    go_enter Try.func71, Try.ntmps71
    go_wp2_with (first | ((with_reducible refine gate_dst (N := 2) rfl ?_); refine box_event ?hg (N := 2) ?hd (cs := #[.int .i64 a0_0, .int .i64 a0_1]) (t := 29) ?hr ?_; (case hd => rfl); (case hg => rfl); (case hr => first | (go_simp; done) | (go_simp; rfl)); intro gb139 hg w6 hbox hb; have n0_ := Aside0.mk (below_step (by repeat (first | (with_reducible first | exact HB.out | apply below_alloc | apply pw_below_drewN | apply below_drew1) | exact HB.out)) hb); have n1_ := Aside0.mk (hbox); have n2_ := Aside0.mk ((by rw [hg]; exact (below_size (by repeat (first | (with_reducible first | exact HB.out | apply below_alloc | apply pw_below_drewN | apply below_drew1) | exact HB.out))) : w.heap.size ≤ gb139)); have n3_ := Aside0.mk ((by rw [hg]; exact (below_size (by repeat (first | (with_reducible first | exact HB.out | apply below_alloc | apply pw_below_drewN | apply below_drew1) | exact HB.out))) : w.heap.size ≤ gb139)); clear HB; have HB := n0_; have BK139 := n1_; have GW139 := n2_; have GE139 := n3_; clear n0_ n1_ n2_ n3_; clear hb hbox hg; have hcz7_0 : w6.cell? ⟨gb139, 0, none⟩ = some (.int .i64 a0_0) := (blk_cell BK139.out 0).trans rfl; have hcz7_1 : w6.cell? ⟨gb139, 1, none⟩ = some (.int .i64 a0_1) := (blk_cell BK139.out 1).trans rfl; have hfz7_0 := blk_frozen BK139.out 0; have hfz7_1 := blk_frozen BK139.out 1))
    go_ret
    exact ⟨by first | rfl | (simp [errW_none, errW_some] <;> rfl) | (simp [*, errW_none, errW_some] <;> rfl), by repeat (first | (with_reducible first | exact HB.out | apply below_alloc | apply pw_below_drewN | apply below_drew1 | refine below_set ?_ GE139.out) | exact HB.out)⟩
theorem eqA160 (d : Nat) (w : World) (x0 y0 : Int) (x1 y1 : ByteArray) (x2 y2 : ByteArray) :
    (Op.equalIn (d + 2) 160 (.agg #[.int .i64 x0, .string x1, .string x2]) (.agg #[.int .i64 y0, .string y1, .string y2])).run Try.prog w = .ok (x0 == y0 && (x1.toList == y1.toList && (x2.toList == y2.toList))) w := by
  refine eqA_of Try.underlying160 (by kernel_rfl) ?_
  refine eqf_cons (by rfl) (by go_simp; rfl) (by go_simp; rfl) (by go_simp) ?_
  refine eqf_cons (by rfl) (by go_simp; rfl) (by go_simp; rfl) (by go_simp) ?_
  exact eqf_last (by rfl) (by go_simp; rfl) (by go_simp; rfl) (by go_simp)
def deployment_subjectOf.f (a0_0 : Int) (a0_1 : Int) (a0_2 : Int) (a0_3 : ByteArray) (a0_4 : ByteArray) (a0_5 : ByteArray) : Option (Int × ByteArray × ByteArray) := some (a0_1, a0_3, a0_4)
set_option maxHeartbeats 8000000 in
set_option maxRecDepth 100000 in
theorem deployment_subjectOf.calls (a0_0 : Int) (a0_1 : Int) (a0_2 : Int) (a0_3 : ByteArray) (a0_4 : ByteArray) (a0_5 : ByteArray) (r1 : Int) (r2 : ByteArray) (r3 : ByteArray) (w : World) (h : deployment_subjectOf.f a0_0 a0_1 a0_2 a0_3 a0_4 a0_5 = some (r1, r2, r3)) :
    Calls Try.prog 87 #[.agg #[.int .i64 a0_0, .int .i64 a0_1, .int .i64 a0_2, .string a0_3, .string a0_4, .string a0_5]] w fun e w' => e = .returned (.agg #[.int .i64 r1, .string r2, .string r3]) ∧ Below w.heap.size w w' := by
  have hu100 := Try.underlying100
  have hu160 := Try.underlying160
  have HB := Aside0.mk (Below.refl w.heap.size w)
  have H : (some (a0_1, a0_3, a0_4)) = some (r1, r2, r3) := h
  clear h
  simp only [Option.some.injEq, Prod.mk.injEq] at H
  obtain ⟨rfl, rfl, rfl⟩ := H
  go_enter Try.func87, Try.ntmps87
  go_wp2_with (first | ((with_reducible refine gate_dst (N := 1) rfl ?_); refine box_event ?hg (N := 1) ?hd (cs := #[.int .i64 a0_0, .int .i64 a0_1, .int .i64 a0_2, .string a0_3, .string a0_4, .string a0_5]) (t := 100) ?hr ?_; (case hd => rfl); (case hg => rfl); (case hr => first | (go_simp; done) | (go_simp; rfl)); intro gb140 hg w2 hbox hb; have n0_ := Aside0.mk (below_step (by repeat (first | (with_reducible first | exact HB.out | apply below_alloc | apply pw_below_drewN | apply below_drew1) | exact HB.out)) hb); have n1_ := Aside0.mk (hbox); have n2_ := Aside0.mk ((by rw [hg]; exact (below_size (by repeat (first | (with_reducible first | exact HB.out | apply below_alloc | apply pw_below_drewN | apply below_drew1) | exact HB.out))) : w.heap.size ≤ gb140)); have n3_ := Aside0.mk ((by rw [hg]; exact (below_size (by repeat (first | (with_reducible first | exact HB.out | apply below_alloc | apply pw_below_drewN | apply below_drew1) | exact HB.out))) : w.heap.size ≤ gb140)); clear HB; have HB := n0_; have BK140 := n1_; have GW140 := n2_; have GE140 := n3_; clear n0_ n1_ n2_ n3_; clear hb hbox hg) | ((with_reducible refine gate_dst (N := 2) rfl ?_); refine box_event ?hg (N := 2) ?hd (cs := #[.int .i64 0, .string (⟨#[]⟩ : ByteArray), .string (⟨#[]⟩ : ByteArray)]) (t := 160) ?hr ?_; (case hd => rfl); (case hg => rfl); (case hr => first | (go_simp; done) | (go_simp; rfl)); intro gb141 hg w3 hbox hb; have n0_ := Aside0.mk (blk_below (g := gb140) (o := .cells #[.int .i64 a0_0, .int .i64 a0_1, .int .i64 a0_2, .string a0_3, .string a0_4, .string a0_5] 100 (0, 0)) (by (with_reducible repeat (first | refine blk_drewN ?_ _ | refine blk_drew ?_ | refine blk_alloc ?_ _)); exact BK140.out) hb); have n1_ := Aside0.mk (below_step (by repeat (first | (with_reducible first | exact HB.out | apply below_alloc | apply pw_below_drewN | apply below_drew1 | refine below_set ?_ GE140.out) | exact HB.out)) hb); have n2_ := Aside0.mk (hbox); have n3_ := Aside0.mk ((by rw [hg]; exact (below_size (by repeat (first | (with_reducible first | exact HB.out | apply below_alloc | apply pw_below_drewN | apply below_drew1 | refine below_set ?_ GE140.out) | exact HB.out))) : w.heap.size ≤ gb141)); have n4_ := Aside0.mk ((by rw [hg]; exact (below_size (by repeat (first | (with_reducible first | exact HB.out | apply below_alloc | apply pw_below_drewN | apply below_drew1 | refine below_set ?_ GE140.out) | exact HB.out))) : w.heap.size ≤ gb141)); have n5_ := Aside0.mk ((by rw [hg]; exact Nat.ne_of_lt (blk_lt (g := gb140) (o := .cells #[.int .i64 a0_0, .int .i64 a0_1, .int .i64 a0_2, .string a0_3, .string a0_4, .string a0_5] 100 (0, 0)) (by (with_reducible repeat (first | refine blk_drewN ?_ _ | refine blk_drew ?_ | refine blk_alloc ?_ _)); exact BK140.out)) : gb140 ≠ gb141)); have n6_ := Aside0.mk ((by rw [hg]; exact Nat.ne_of_gt (blk_lt (g := gb140) (o := .cells #[.int .i64 a0_0, .int .i64 a0_1, .int .i64 a0_2, .string a0_3, .string a0_4, .string a0_5] 100 (0, 0)) (by (with_reducible repeat (first | refine blk_drewN ?_ _ | refine blk_drew ?_ | refine blk_alloc ?_ _)); exact BK140.out)) : gb141 ≠ gb140)); clear BK140; clear HB; have BK140 := n0_; have HB := n1_; have BK141 := n2_; have GW141 := n3_; have GE141 := n4_; have NB140_141 := n5_; have NB141_140 := n6_; clear n0_ n1_ n2_ n3_ n4_ n5_ n6_; clear hb hbox hg; have hnb4 := NB140_141.out; have hnc4 := NB141_140.out; have hcz5_0 : w3.cell? ⟨gb140, 0, none⟩ = some (.int .i64 a0_0) := (blk_cell BK140.out 0).trans rfl; have hcz5_1 : w3.cell? ⟨gb140, 1, none⟩ = some (.int .i64 a0_1) := (blk_cell BK140.out 1).trans rfl; have hcz5_2 : w3.cell? ⟨gb140, 2, none⟩ = some (.int .i64 a0_2) := (blk_cell BK140.out 2).trans rfl; have hcz5_3 : w3.cell? ⟨gb140, 3, none⟩ = some (.string a0_3) := (blk_cell BK140.out 3).trans rfl; have hcz5_4 : w3.cell? ⟨gb140, 4, none⟩ = some (.string a0_4) := (blk_cell BK140.out 4).trans rfl; have hcz5_5 : w3.cell? ⟨gb140, 5, none⟩ = some (.string a0_5) := (blk_cell BK140.out 5).trans rfl; have hfz5_0 := blk_frozen BK140.out 0; have hfz5_1 := blk_frozen BK140.out 1; have hfz5_2 := blk_frozen BK140.out 2; have hfz5_3 := blk_frozen BK140.out 3; have hfz5_4 := blk_frozen BK140.out 4; have hfz5_5 := blk_frozen BK140.out 5; have hcz6_0 : w3.cell? ⟨gb141, 0, none⟩ = some (.int .i64 0) := (blk_cell BK141.out 0).trans rfl; have hcz6_1 : w3.cell? ⟨gb141, 1, none⟩ = some (.string (⟨#[]⟩ : ByteArray)) := (blk_cell BK141.out 1).trans rfl; have hcz6_2 : w3.cell? ⟨gb141, 2, none⟩ = some (.string (⟨#[]⟩ : ByteArray)) := (blk_cell BK141.out 2).trans rfl; have hfz6_0 := blk_frozen BK141.out 0; have hfz6_1 := blk_frozen BK141.out 1; have hfz6_2 := blk_frozen BK141.out 2))
  refine bodyPost_ret (results_cell_row rfl _ _ gb141 160 #[.int .i64 a0_1, .string a0_3, .string a0_4] (0, 0) _ rfl (by (with_reducible repeat (first | refine blk_drewN ?_ _ | refine blk_drew ?_ | refine blk_alloc ?_ _)); refine blk_put (cs := #[.int .i64 a0_1, .string a0_3, .string (⟨#[]⟩ : ByteArray)]) ?_ 2 _ rfl; (with_reducible repeat (first | refine blk_drewN ?_ _ | refine blk_drew ?_ | refine blk_alloc ?_ _)); refine blk_put (cs := #[.int .i64 a0_1, .string (⟨#[]⟩ : ByteArray), .string (⟨#[]⟩ : ByteArray)]) ?_ 1 _ rfl; (with_reducible repeat (first | refine blk_drewN ?_ _ | refine blk_drew ?_ | refine blk_alloc ?_ _)); refine blk_put (cs := #[.int .i64 0, .string (⟨#[]⟩ : ByteArray), .string (⟨#[]⟩ : ByteArray)]) ?_ 0 _ rfl; (with_reducible repeat (first | refine blk_drewN ?_ _ | refine blk_drew ?_ | refine blk_alloc ?_ _)); exact BK141.out) Try.underlying160 rfl (by kernel_rfl)) rfl ?_
  exact ⟨by first | rfl | (simp [errW_none, errW_some] <;> rfl) | (simp [*, errW_none, errW_some] <;> rfl), by repeat (first | (with_reducible first | exact HB.out | apply below_alloc | apply pw_below_drewN | apply below_drew1 | refine below_set ?_ GE140.out | refine below_set ?_ GE141.out) | exact HB.out)⟩
end Go.Proofs.Ytdadnapfecmmdaa.P
