/- Own texts of a proof about layer 55's simulate (merged): Eo, Ev, Po. -/
import Derived.Test.YtdadnapfecmmdaaQe13
import Derived.Test.YtdadnapfecmmdaaQe14
import Derived.Test.YtdadnapfecmmdaaQe3
import Derived.Test.YtdadnapfecmmdaaQe5
import Derived.Deep.DeepMust
import Derived.WalkKit
import Derived.ProofKit
import Derived.OpenShut
import Derived.ChangeOld
import Derived.Deep.Slices
namespace Go.Proofs.Ytdadnapfecmmdaa.P
set_option linter.unusedVariables false
set_option linter.unusedSimpArgs false
open Go.RowKit Go.Proofs.YtdadnapfecmmdaaW.PrintWords Go.Proofs.YtdadnapfecmmdaaW.PrintLast Go.Proofs.YtdadnapfecmmdaaW.PrintMore
open Go.Proofs.Ytdadnapfecmmdaa.Hm
theorem kept_fails (id : Int) (l : List Sp) : keptV id l = failsV l id := by
  unfold keptV failsV delV
  congr
  funext t
  simp
set_option maxHeartbeats 2000000 in
set_option maxRecDepth 100000 in
theorem failing_calls (ad : Addr) (c : Nat) (l : List Sp) (id : Int) (w : World) (hC : Kd.C k56 w (some ad) l.length (l.map toS)) (hl : l.length ≤ 1000) :
    Calls Try.prog 74 #[.slice (some ad) l.length c, .int .i64 id] w fun e w' => ∃ (A : Option Addr) (c' : Nat), e = .returned (.slice A (failsV l id).length c') ∧ Below w.heap.size w w' := by
  have HC := Aside0.mk hC
  have hb0 : Below w.heap.size w (w.alloc (.cells #[.int .i64 id] 3)) := below_alloc (Below.refl _ _) _
  have HX := Aside0.mk (blk_new w (.cells #[.int .i64 id] 3))
  have HCL := Aside0.mk (clone_calls ad c l (w.alloc (.cells #[.int .i64 id] 3)) (Kd.C_below hC hb0) hl)
  clear hC
  go_enter Try.func74, Try.ntmps74
  go_wp2_with fail
  refine HCL.out.mono ?_
  rintro e w1 ⟨g, cap, rfl, hg, hgl, hcap, hG, hR, hb1⟩
  have hx1 := blk_below HX.out hb1
  have hc1 : w1.cell? ⟨w.heap.size, 0, none⟩ = some (.int .i64 id) := (blk_cell hx1 0).trans rfl
  have hwg : w.heap.size < g := by simp at hg; omega
  have HB1 := Aside0.mk (below_step hb0 hb1)
  have HDF := Aside0.mk (delfunc_calls g cap l id ⟨w.heap.size, 0, none⟩ w1 hl hcap hG hR hgl hc1 (by show w.heap.size ≠ g; omega))
  clear hb0 hb1 hx1 hc1 hG hR HX HC HCL
  go_wp2_with fail
  refine HDF.out.mono ?_
  rintro e w2 ⟨cap', rfl, hb2⟩
  rw [kept_fails]
  have HB2 := Aside0.mk (HB1.out.trans (hb2.mono (by omega)))
  clear hb2 HDF HB1
  go_wp2
  go_ret
  exact ⟨_, cap', rfl, HB2.out⟩
set_option maxHeartbeats 2000000 in
set_option maxRecDepth 100000 in
theorem origin_calls (ad : Addr) (c : Nat) (l : List Sp) (s : Sp) (A12 : Option Addr) (c12 : Nat) (A13 : Option Addr) (c13 : Nat) (w : World) (hC : Kd.C k56 w (some ad) l.length (l.map toS)) (hl : l.length ≤ 1000) :
    Calls Try.prog 45 #[.slice (some ad) l.length c, .agg (sv14 s A12 c12 A13 c13)] w fun e w' => e = .returned (.bool (originV l s)) ∧ Below w.heap.size w w' := by
  have hb0 : Below w.heap.size w (w.alloc (.cells (sv14 s A12 c12 A13 c13) 56)) := below_alloc (Below.refl _ _) _
  have HF := Aside0.mk (fun W (hb : Below w.heap.size w W) => failing_calls ad c l s.id W (Kd.C_below hC hb) hl)
  clear hC
  cases he : s.err with
  | true =>
    have e : originV l s = ((failsV l s.id).length == 0) := by unfold originV; rw [he]; rfl
    rw [e]
    generalize (failsV l s.id).length = n at HF
    have HE := Aside0.mk he
    clear e
    go_enter Try.func45, Try.ntmps45
    go_wp2_with fail
    refine (HF.out _ hb0).mono ?_
    rintro e w1 ⟨A, c', rfl, hb1⟩
    have HB := Aside0.mk (below_step hb0 hb1)
    clear hb0 hb1
    go_wp2
    go_ret
    exact ⟨by rw [show (((n : Int) == 0) : Bool) = (n == 0) from by rw [Bool.eq_iff_iff]; simp]; rfl, HB.out⟩
  | false =>
    have e : originV l s = false := by unfold originV; rw [he]; rfl
    rw [e]
    clear e
    go_enter Try.func45, Try.ntmps45
    go_wp2_with fail
    go_ret
    exact ⟨rfl, hb0⟩
def originsV' (l m : List Sp) : List Int := (m.filter (originV l)).map (·.id)
theorem orig_snoc (l : List Sp) (i : Nat) (h : i < l.length) : originsV' l (l.take (i + 1)) = originsV' l (l.take i) ++ (if originV l l[i] then [l[i].id] else []) := by
  unfold originsV'
  rw [List.take_succ_eq_append_getElem h, List.filter_append, List.map_append]
  cases hd : originV l l[i] <;> simp [hd]
theorem orig_len (l : List Sp) (i : Nat) : (originsV' l (l.take i)).length ≤ i := by
  unfold originsV'
  rw [List.length_map]
  exact Nat.le_trans (List.length_filter_le _ _) (by rw [List.length_take]; omega)
theorem reps_int {W : World} {base : Nat} {ok : Nat → Prop} {xs : List Int} {inner : List Value} (h : Reps ((Kd.int .i64).M W base ok) 1 xs inner) : inner = xs.map (Value.int .i64) := by
  obtain ⟨hl, hr⟩ := h
  apply List.ext_getElem?
  intro j
  by_cases hj : j < xs.length
  · have h1 := hr j xs[j] (List.getElem?_eq_getElem hj)
    have h2 : (inner.drop (j * 1)).take 1 = [.int .i64 xs[j]] := h1
    rw [List.getElem?_map, List.getElem?_eq_getElem hj]
    have h3 := congrArg (fun l => l[0]?) h2
    simpa using h3
  · rw [List.getElem?_eq_none (by omega), List.getElem?_eq_none (by simp; omega)]
theorem C_ints {w : World} {base g cap : Nat} {ts : List Int} (h : w.ownsRow base 3 1 (.slice (some ⟨g, 0, none⟩) ts.length cap) ts.length (ts.map (Value.int .i64))) : Kd.C (Kd.int .i64) w (some ⟨g, 0, none⟩) ts.length ts := by
  have hreps : Reps ((Kd.int .i64).K w) 1 ts (ts.map (Value.int .i64)) := by
    refine ⟨by simp, fun j p hj => ?_⟩
    show ((ts.map (Value.int .i64)).drop (j * 1)).take 1 = [.int .i64 p]
    apply List.ext_getElem?
    intro i
    rw [List.getElem?_take]
    split
    · rename_i hi
      obtain rfl : i = 0 := by omega
      simp [hj]
    · rename_i hi
      rw [List.getElem?_eq_none (by simp; omega)]
  obtain ⟨A, c, e, hr⟩ := own_reads_row h hreps (by simp)
  injection e with e1 _ _
  rw [e1]
  exact hr
theorem sortrow_calls (v : Value) (xs : List Int) (base : Nat) (w : World) (hR : Kd.R (Kd.int .i64) 3 w base (fun _ => True) v xs) (hl : xs.length ≤ 1000) (hb : base ≤ w.heap.size) :
    Calls Try.prog 46 #[v] w fun e w' => ∃ (A : Option Addr) (c : Nat) (ol : List Int), e = .returned (.tuple #[]) ∧ v = .slice A ol.length c ∧ Kd.C (Kd.int .i64) w' A ol.length ol ∧ (∀ x, x ∈ ol ↔ x ∈ xs) ∧ Below base w w' := by
  by_cases h0 : xs.length = 0
  · obtain ⟨A, c, rfl, hc, hC⟩ := Kd.R_reads hR
    obtain rfl : xs = [] := List.eq_nil_of_length_eq_zero h0
    refine (sort_none A c w).mono ?_
    rintro e w' ⟨rfl, rfl⟩
    exact ⟨A, c, [], rfl, rfl, hC, fun x => Iff.rfl, Below.refl _ _⟩
  · obtain ⟨-, inner, ho, hr⟩ := hR
    obtain rfl := reps_int hr
    have ho' := ho
    rcases ho'.2 with ⟨_, hn⟩ | ⟨g, cap, cur, rfl, hg, hcur, hn, hcap, hsz, htk⟩
    · first | omega | (exact absurd hn.1 h0) | simp_all
    · have hH := holds_of_blockI (ss := xs) hcur (by have h1 : (Kd.int .i64).sz = 1 := rfl; rw [h1, Nat.mul_one] at htk; exact htk)
      have hgl := blk_lt hcur
      refine (sort_int g 0 cap xs w hH hgl (by omega)).mono ?_
      rintro e w' ⟨rfl, n, os, rfl⟩
      have hlen : (xs.mergeSort fun x y => decide (x ≤ y)).length = xs.length := List.length_mergeSort _
      have hown := ownsRow_sortedI (n := n) (os := os) hlen hg hcur hn hcap hsz
      refine ⟨some ⟨g, 0, none⟩, cap, xs.mergeSort fun x y => decide (x ≤ y), rfl, by rw [hlen], ?_, fun x => List.mem_mergeSort, ?_⟩
      · refine C_ints (base := base) (cap := cap) ?_
        rw [hlen]
        exact hown
      · exact (Below.refl base w).grown (grownBy_sortedI _) hb (by intro k hk; injection hk with hk; omega)
set_option maxHeartbeats 4000000 in
set_option maxRecDepth 100000 in
theorem origins_calls (ad : Addr) (c : Nat) (l : List Sp) (w : World) (hC : Kd.C k56 w (some ad) l.length (l.map toS)) (hl : l.length ≤ 1000) :
    Calls Try.prog 24 #[.slice (some ad) l.length c] w fun e w' => ∃ (A : Option Addr) (c' : Nat) (ol : List Int), e = .returned (.slice A ol.length c') ∧ Kd.C (Kd.int .i64) w' A ol.length ol ∧ (∀ x, x ∈ ol ↔ x ∈ originsV l) ∧ Below w.heap.size w w' := by
  have HC := Aside0.mk hC
  have HO := Aside0.mk (fun W s A12 c12 A13 c13 (hb : Below w.heap.size w W) => origin_calls ad c l s A12 c12 A13 c13 W (Kd.C_below hC hb) hl)
  clear hC
  go_enter Try.func24, Try.ntmps24
  go_wp2_with fail
  go_loopg [3, 5, 8] l.length (fun gg s3 s5 s8 wr => ∃ (i : Nat) (A3 : Option Addr) (c3 : Nat), i ≤ l.length ∧ l.length - i ≤ gg ∧ s8 = .int .i64 (i : Int) ∧ s3 = .slice A3 (originsV' l (l.take i)).length c3 ∧ Aside0 (Kd.R (Kd.int .i64) 3 wr w.heap.size (fun _ => True) (.slice A3 (originsV' l (l.take i)).length c3) (originsV' l (l.take i))) ∧ Aside0 (Below w.heap.size w wr))
  case atStart => exact ⟨0, none, 0, Nat.zero_le _, by omega, rfl, rfl, ⟨Kd.R_nil _ _ _ _ _⟩, ⟨Below.refl _ _⟩⟩
  case round =>
  obtain ⟨i, A3, c3, hi, hgi, rfl, rfl, HR, HB⟩ := hrel
  by_cases hlt : i < l.length
  · obtain ⟨ad', A12, c12, A13, c13, e, s0, s1, s2, s3, s4, s5, s6, s7, s8, s9, s10, s11, s12, s13, -⟩ := at_T56 HC.out (i : Int) (by omega) (by omega)
    obtain rfl : ad = ad' := by injection e
    rw [rdS_at l i hlt] at s0 s1 s2 s3 s4 s5 s6 s7 s8 s9 s10 s11 s12 s13
    have HNX := Aside0.mk (orig_snoc l i hlt)
    have hxl : (originsV' l (l.take i)).length ≤ i := orig_len l i
    generalize l[i] = s at s0 s1 s2 s3 s4 s5 s6 s7 s8 s9 s10 s11 s12 s13 HNX
    generalize originsV' l (l.take i) = xs at HR HNX hxl ⊢
    simp only [Int.toNat_natCast, toS, List.length_nil] at s0 s1 s2 s3 s4 s5 s6 s7 s8 s9 s10 s11 s12 s13
    replace s0 := (HB.out.cell (World.block_lt_of_cell? _ _ s0)).trans s0
    replace s1 := (HB.out.cell (World.block_lt_of_cell? _ _ s1)).trans s1
    replace s2 := (HB.out.cell (World.block_lt_of_cell? _ _ s2)).trans s2
    replace s3 := (HB.out.cell (World.block_lt_of_cell? _ _ s3)).trans s3
    replace s4 := (HB.out.cell (World.block_lt_of_cell? _ _ s4)).trans s4
    replace s5 := (HB.out.cell (World.block_lt_of_cell? _ _ s5)).trans s5
    replace s6 := (HB.out.cell (World.block_lt_of_cell? _ _ s6)).trans s6
    replace s7 := (HB.out.cell (World.block_lt_of_cell? _ _ s7)).trans s7
    replace s8 := (HB.out.cell (World.block_lt_of_cell? _ _ s8)).trans s8
    replace s9 := (HB.out.cell (World.block_lt_of_cell? _ _ s9)).trans s9
    replace s10 := (HB.out.cell (World.block_lt_of_cell? _ _ s10)).trans s10
    replace s11 := (HB.out.cell (World.block_lt_of_cell? _ _ s11)).trans s11
    replace s12 := (HB.out.cell (World.block_lt_of_cell? _ _ s12)).trans s12
    replace s13 := (HB.out.cell (World.block_lt_of_cell? _ _ s13)).trans s13
    have hz1 : (i : Int) < (l.length : Int) := by omega
    go_upto_region 5 with fail
    have hbn : Below wr.heap.size wr (wr.alloc (.cells (sv14 s A12 c12 A13 c13) 56)) := below_alloc (Below.refl _ _) _
    have HX := Aside0.mk (blk_new wr (.cells (sv14 s A12 c12 A13 c13) 56))
    have HB2 := Aside0.mk (below_step HB.out hbn)
    have HR2 := Aside0.mk (Kd.R_below HR.out hbn)
    clear hbn s0 s1 s2 s3 s4 s5 s6 s7 s8 s9 s10 s11 s12 s13 HB HR
    change Code.wp _ _ _ _ (wr.alloc (.cells (sv14 s A12 c12 A13 c13) 56))
    generalize hgb : wr.heap.size = gb at HX ⊢
    clear hgb
    generalize wr.alloc (.cells (sv14 s A12 c12 A13 c13) 56) = v0 at HX HB2 HR2 ⊢
    have y0 : v0.cell? ⟨gb, 0, none⟩ = some (.int .i64 s.tr) := (blk_cell HX.out 0).trans rfl
    have y1 : v0.cell? ⟨gb, 1, none⟩ = some (.int .i64 s.id) := (blk_cell HX.out 1).trans rfl
    have y2 : v0.cell? ⟨gb, 2, none⟩ = some (.int .i64 s.par) := (blk_cell HX.out 2).trans rfl
    have y3 : v0.cell? ⟨gb, 3, none⟩ = some (.int .i64 s.rev) := (blk_cell HX.out 3).trans rfl
    have y4 : v0.cell? ⟨gb, 4, none⟩ = some (.int .i64 s.clk) := (blk_cell HX.out 4).trans rfl
    have y5 : v0.cell? ⟨gb, 5, none⟩ = some (.int .i64 s.kind) := (blk_cell HX.out 5).trans rfl
    have y6 : v0.cell? ⟨gb, 6, none⟩ = some (.string s.svc) := (blk_cell HX.out 6).trans rfl
    have y7 : v0.cell? ⟨gb, 7, none⟩ = some (.string s.ver) := (blk_cell HX.out 7).trans rfl
    have y8 : v0.cell? ⟨gb, 8, none⟩ = some (.string s.op) := (blk_cell HX.out 8).trans rfl
    have y9 : v0.cell? ⟨gb, 9, none⟩ = some (.int .i64 s.st) := (blk_cell HX.out 9).trans rfl
    have y10 : v0.cell? ⟨gb, 10, none⟩ = some (.int .i64 s.en) := (blk_cell HX.out 10).trans rfl
    have y11 : v0.cell? ⟨gb, 11, none⟩ = some (.bool s.err) := (blk_cell HX.out 11).trans rfl
    have y12 : v0.cell? ⟨gb, 12, none⟩ = some (.slice A12 0 c12) := (blk_cell HX.out 12).trans rfl
    have y13 : v0.cell? ⟨gb, 13, none⟩ = some (.slice A13 0 c13) := (blk_cell HX.out 13).trans rfl
    go_wp2_with fail
    refine (HO.out _ s A12 c12 A13 c13 HB2.out).mono ?_
    rintro e v1 ⟨rfl, hb1⟩
    have HX3 := Aside0.mk (blk_below HX.out hb1)
    have HB3 := Aside0.mk (below_step HB2.out hb1)
    have HR3 := Aside0.mk (Kd.R_below HR2.out hb1)
    clear hb1 HX HB2 HR2 y0 y1 y2 y3 y4 y5 y6 y7 y8 y9 y10 y11 y12 y13
    cases ho : originV l s with
    | false =>
      rw [ho] at HNX
      go_wp2_with fail
      go_roundg (l.length - (i + 1))
      case measure => omega
      case rel => exact ⟨i + 1, A3, c3, by omega, by omega, by first | rfl | go_num, by rw [HNX.out]; simp, ⟨by rw [HNX.out]; simpa using HR3.out⟩, HB3⟩
    | true =>
      rw [ho] at HNX
      have y1 : v1.cell? ⟨gb, 1, none⟩ = some (.int .i64 s.id) := (blk_cell HX3.out 1).trans rfl
      go_wp2_with (at_builtin; go_must (refine Kd.R_append (Kd.int .i64) (w0 := w) w.heap.size rfl _ _ 47 3 _ 8 rfl Try.underlying47 info3 rfl (by decide) (by decide) (.slice A3 xs.length c3) xs s.id [.int .i64 s.id] (fun _ => True) (fun _ => False) rfl ?c4 rfl (fun _ h => h.elim) (fun _ _ => trivial) HR3.out HB3.out HB3.out.size ?c3 ?_; (case c4 => simp [go_sem]); (case c3 => omega); intro v2 w2 hr2 hb2 hg2 ho2; clear hg2 ho2; obtain ⟨A7, c7, e7⟩ := Kd.R_slice hr2; subst e7; have HR4 := Aside0.mk hr2; have HB4 := Aside0.mk hb2; clear hr2 hb2))
      go_roundg (l.length - (i + 1))
      case measure => omega
      case rel => exact ⟨i + 1, A7, c7, by omega, by omega, by first | rfl | go_num, by rw [HNX.out]; simp, ⟨by rw [HNX.out]; simpa using HR4.out⟩, HB4⟩
  · obtain rfl : i = l.length := by omega
    have hz1 : decide (l.length < l.length) = false := by simp
    have hz2 : decide ((l.length : Int) < (l.length : Int)) = false := by simp
    have hxl : (originsV' l (l.take l.length)).length ≤ l.length := orig_len l l.length
    have HE : Aside0 (originsV' l (l.take l.length) = originsV l) := ⟨by rw [List.take_length]; rfl⟩
    have HSO := Aside0.mk (sortrow_calls (.slice A3 (originsV' l (l.take l.length)).length c3) (originsV' l (l.take l.length)) w.heap.size wr HR.out (by omega) HB.out.size)
    clear hlt HR HO HC hgi hi
    generalize originsV' l (l.take l.length) = xs at HE HSO hxl ⊢
    go_wp2_with fail
    refine HSO.out.mono ?_
    rintro e w2 ⟨A, c2, ol, rfl, hv, hC2, hmem, hb2⟩
    injection hv with hv1 hv2 hv3
    subst hv1 hv3
    have HC2 := Aside0.mk hC2
    have HM := Aside0.mk hmem
    have HB2 := Aside0.mk (HB.out.trans hb2)
    clear hC2 hmem hb2 HSO HB
    rw [hv2]
    go_wp2
    go_ret
    exact ⟨_, _, ol, rfl, HC2.out, fun x => by rw [HM.out x, HE.out], HB2.out⟩
def anyV (l : List Sp) (k : Nat) : Bool := (l.take k).any (·.err)
theorem any_succ (l : List Sp) (k : Nat) (h : k < l.length) : anyV l (k + 1) = (anyV l k || l[k].err) := by
  unfold anyV
  rw [List.take_succ_eq_append_getElem h, List.any_append]
  simp
theorem any_all (l : List Sp) (hE : ErrOk l) : anyV l l.length = (l[0]'hE.ne).err := by
  unfold anyV
  rw [List.take_length]
  cases h : (l[0]'hE.ne).err with
  | true => exact List.any_eq_true.mpr ⟨_, List.getElem_mem _, h⟩
  | false =>
    rw [List.any_eq_false]
    intro s hs hb
    obtain ⟨j, hj, rfl⟩ := List.getElem_of_mem hs
    have := hE.root j hj hb
    rw [h] at this
    cases this
theorem row3 {w : World} {ax : Addr} {l : List Sp} (h : Kd.C k56 w (some ax) l.length (l.map toS)) (k : Nat) (hk : k < l.length) :
    w.cell? ⟨(ax.add (k * 14)).block, (ax.add (k * 14)).off + 2, none⟩ = some (.int .i64 l[k].par) ∧ w.cell? ⟨(ax.add (k * 14)).block, (ax.add (k * 14)).off + 5, none⟩ = some (.int .i64 l[k].kind) ∧ w.cell? ⟨(ax.add (k * 14)).block, (ax.add (k * 14)).off + 11, none⟩ = some (.bool l[k].err) := by
  obtain ⟨ay, A12, c12, A13, c13, e, s0, s1, s2, s3, s4, s5, s6, s7, s8, s9, s10, s11, -⟩ := at_T56 h (k : Int) (by omega) (by omega)
  obtain rfl : ax = ay := by injection e
  rw [rdS_at l k hk] at s2 s5 s11
  simp only [Int.toNat_natCast, toS] at s2 s5 s11
  exact ⟨s2, s5, s11⟩
set_option maxHeartbeats 8000000 in
set_option maxRecDepth 100000 in
theorem errors_calls (p : Plan) (a : PlanAt) (w : World) (hR : PlanR w a p) (hok : PlanOk p) :
    Calls Try.prog 7 #[.agg (p.cells a)] w fun e w' => e = .returned (.bool true) ∧ Below w.heap.size w w' := by
  have HCF := Aside0.mk (fun W (hb : Below w.heap.size w W) => config_calls p a W (hR.below hb) hok)
  have HCK := Aside0.mk (ckAll_ok (cfg_valid p hok) 0)
  have HTV := Aside0.mk (plan_traces p hok id 110 (Nat.le_refl _))
  have hsf : 0 ≤ (p.cfg chgs47).sfrom := by have := hok.first; show 0 ≤ p.first % 8; omega
  have hst : (p.cfg chgs47).sto ≤ 100 := by show p.first % 8 + p.slots % 4 ≤ 100; omega
  have hpr : (p.cfg chgs47).per ≤ 10 := by show p.per % 3 ≤ 10; omega
  have HER := Aside0.mk (fun x hx => traces_errs (p.cfg chgs47) (plan_sys p hok) hsf hst hpr x hx)
  clear hsf hst hpr
  generalize tracesI (p.cfg chgs47) id = ts at HTV HER
  generalize p.cfg chgs47 = c at HCF HCK HTV
  clear hR hok
  go_enter Try.func7, Try.ntmps7
  go_wp2_with fail
  refine (HCF.out _ (below_alloc (Below.refl _ _) _)).mono ?_
  rintro e w1 ⟨⟨A1, c1, A2, c2, A3, c3, A4, c4⟩, rfl, hR1, hb1⟩
  have HR1 := Aside0.mk hR1.now
  have HB1 := Aside0.mk (below_step (below_alloc (Below.refl w.heap.size w) _) hb1)
  clear hR1 hb1 HCF
  go_upto_region 2 with fail
  have hbb : Below w1.heap.size w1 (w1.alloc (.cells (c.cells ⟨A1, c1, A2, c2, A3, c3, A4, c4⟩) 31)) := below_alloc (Below.refl _ _) _
  go_wp2_with fail
  refine (Truth_ok 110 0 c ⟨A1, c1, A2, c2, A3, c3, A4, c4⟩ _ ts (HR1.out.below hbb) HCK.out HTV.out).mono ?_
  rintro e w2 ⟨v, rfl, ht, hb2⟩
  obtain ⟨AT, cT, rfl, hcT, hCT⟩ := ht.reads
  rw [List.length_map] at hcT hCT
  rw [List.length_map]
  have HB2 := Aside0.mk (below_step (below_step HB1.out hbb) hb2)
  have HCT := Aside0.mk hCT
  clear ht hb2 hbb hCT HB1 HR1 HCK HTV
  go_wp2_with fail
  refine (known_calls _).mono ?_
  rintro e w3 ⟨rfl, hb3⟩
  have HB3 := Aside0.mk (below_step HB2.out hb3)
  have HT3 := Aside0.mk (Kd.C_below HCT.out hb3)
  have hlT : ts.length ≤ 9223372036854775807 := HCT.out.2.1
  clear HB2 HCT hb3
  go_wp2_with fail
  go_loopg [6, 7, 8, 9, 10, 11, 12] ts.length (fun gg s6 s7 s8 s9 s10 s11 s12 wr => ∃ i : Nat, i ≤ ts.length ∧ ts.length - i ≤ gg ∧ s6 = .int .i64 (i : Int) ∧ Aside0 (Below w3.heap.size w3 wr))
  case atStart => exact ⟨0, Nat.zero_le _, by omega, rfl, ⟨Below.refl _ _⟩⟩
  case round =>
  obtain ⟨i, hi, hgi, rfl, HB⟩ := hrel
  by_cases hlt : i < ts.length
  · obtain ⟨ad, A2', k2, e, -, -, t2, hk2, hC2⟩ := at_T51 HT3.out (i : Int) (by omega) (by omega)
    subst e
    rw [rdT_at ts i hlt] at t2 hC2 hk2
    have HEX := Aside0.mk (HER.out ts[i] (List.getElem_mem _))
    generalize ts[i] = x at t2 hC2 hk2 HEX
    simp only [Int.toNat_natCast, toT, List.length_map] at t2 hC2 hk2
    obtain ⟨x0, l⟩ := x
    dsimp only at t2 hC2 hk2 HEX
    have hne := HEX.out.ne
    have hmost := HEX.out.most
    obtain ⟨ax, _, _, _, _, e, -⟩ := at_T56 hC2 (0 : Int) (by omega) (by omega)
    subst e
    replace t2 := (HB.out.cell (World.block_lt_of_cell? _ _ t2)).trans t2
    have HCX := Aside0.mk (Kd.C_below hC2 HB.out)
    have hz1 : (i : Int) < (ts.length : Int) := by omega
    clear hC2 hk2
    obtain ⟨wo, rfl⟩ : ∃ wo : World, wo = wr := ⟨_, rfl⟩
    go_wp2_with fail
    clear t2
    go_loopg [8, 9, 10] l.length (fun gg s8 s9 s10 wr => ∃ k : Nat, k ≤ l.length ∧ l.length - k ≤ gg ∧ s8 = .bool (anyV l k) ∧ s9 = .int .i64 (k : Int) ∧ Aside0 (wr = wo))
    case atStart => exact ⟨0, Nat.zero_le _, by omega, rfl, rfl, ⟨rfl⟩⟩
    case round =>
    obtain ⟨k, hk, hgk, rfl, rfl, hw⟩ := hrel
    have hw' := hw.out.symm
    subst hw'
    clear hw
    by_cases hlk : k < l.length
    · obtain ⟨r2, -, r11⟩ := row3 HCX.out k hlk
      have hz2 : (k : Int) < (l.length : Int) := by omega
      have HAN := Aside0.mk (any_succ l k hlk)
      obtain ⟨p0, p1⟩ := HEX.out.par k hlk
      have HUP := Aside0.mk (HEX.out.up k hlk)
      have HRW := Aside0.mk (fun j hj => (row3 HCX.out j hj).2.2)
      generalize hge : anyV l (k + 1) = an1 at HAN
      have HGE := Aside0.mk hge
      clear hge
      generalize anyV l k = an at HAN ⊢
      go_upto_region 13 with fail
      obtain ⟨WC, rfl⟩ : ∃ W : World, W = wo := ⟨_, rfl⟩
      go_cut [8] (fun s8 wz => s8 = .bool an1 ∧ Aside0 (wz = WC))
      case first =>
        have e := HAN.out
        clear HAN HUP HRW HEX HCX r2
        cases an with
        | true =>
          subst e
          go_wp2_with fail
          go_meet
          exact ⟨by simp, ⟨rfl⟩⟩
        | false =>
          subst e
          go_wp2_with fail
          go_meet
          exact ⟨by simp, ⟨rfl⟩⟩
      case rest =>
        obtain ⟨rfl, hw⟩ := hcut
        have hw' := hw.out.symm
        subst hw'
        clear hw HAN
        by_cases hp : 0 < l[k].par
        · obtain ⟨j, hj⟩ : ∃ j : Nat, l[k].par = (j : Int) + 1 := ⟨(l[k].par - 1).toNat, by omega⟩
          have hjl : j < l.length := by omega
          have u11 := HRW.out j hjl
          have hpe := HUP.out j hjl hj
          rw [hj] at r2
          have m1 : wrap64 ((j : Int) + 1 - 1) = (j : Int) := by unfold wrap64; omega
          have m2 : IntKind.i64.wrap ((j : Int) + 1 - 1) = (j : Int) := (IntWalk.i64_in _ (by omega)).trans (by omega)
          have m3 : decide ((0 : Int) < (j : Int) + 1) = true := decide_eq_true (by omega)
          have m4 : ((0 : Int) < (j : Int) + 1) = True := eq_true (by omega)
          have m5 : (j : Int) < (l.length : Int) := by omega
          have m6 : ((j : Int) + 1 - 1) = (j : Int) := by omega
          clear hp HUP HRW p0 p1 hj
          cases he : l[k].err with
          | true =>
            rw [he] at r11 hpe
            rw [hpe rfl] at u11
            clear he hpe
            go_wp2_with fail
            go_roundg (l.length - (k + 1))
            case measure => omega
            case rel => exact ⟨k + 1, by omega, by omega, by rw [HGE.out], by first | rfl | go_num, ⟨rfl⟩⟩
          | false =>
            rw [he] at r11
            clear he hpe u11
            go_wp2_with fail
            go_roundg (l.length - (k + 1))
            case measure => omega
            case rel => exact ⟨k + 1, by omega, by omega, by rw [HGE.out], by first | rfl | go_num, ⟨rfl⟩⟩
        · have m3 : decide ((0 : Int) < l[k].par) = false := decide_eq_false (by omega)
          have m4 : ((0 : Int) < l[k].par) = False := eq_false hp
          clear hp HUP HRW p0 p1
          go_wp2_with fail
          go_roundg (l.length - (k + 1))
          case measure => omega
          case rel => exact ⟨k + 1, by omega, by omega, by rw [HGE.out], by first | rfl | go_num, ⟨rfl⟩⟩
    · obtain rfl : k = l.length := by omega
      have hz2 : decide (l.length < l.length) = false := by simp
      have hz3 : decide ((l.length : Int) < (l.length : Int)) = false := by simp
      have HAA := Aside0.mk (any_all l HEX.out)
      have hr0 := (row3 HCX.out 0 hne).2.2
      have HORG := Aside0.mk HEX.out.org
      have HSOME := Aside0.mk HEX.out.some
      have HNONE := Aside0.mk HEX.out.none
      have HRK := Aside0.mk (fun j hj => (row3 HCX.out j hj).2.1)
      have HOC := Aside0.mk (origins_calls ax k2 l wo HCX.out (by omega))
      rw [HAA.out]
      have hadd0 : ax.add (0 * 14) = ax := by simp [Addr.add]
      rw [hadd0] at hr0
      clear hlk hgk hk HAA HCX
      generalize hle : (l[0]'hne).err = eb at hr0 HSOME HNONE ⊢
      clear hle HEX
      go_wp2_with fail
      refine HOC.out.mono ?_
      rintro e w4 ⟨AO, cO, ol, rfl, hCO, hmem, hb4⟩
      have HCO := Aside0.mk hCO
      have hnO : ol.length ≤ 9223372036854775807 := hCO.2.1
      replace hr0 := (hb4.cell (World.block_lt_of_cell? _ _ hr0)).trans hr0
      have HB4 := Aside0.mk (below_step HB.out hb4)
      replace HRK := Aside0.mk (fun j hj => (hb4.cell (World.block_lt_of_cell? _ _ (HRK.out j hj))).trans (HRK.out j hj))
      have hO : (eb = true → 0 < ol.length) ∧ (eb = false → ol.length = 0) := by
        refine ⟨fun h => ?_, fun h => ?_⟩
        · cases ol with
          | nil =>
            exfalso
            refine HSOME.out h (List.eq_nil_iff_forall_not_mem.mpr fun x hx => ?_)
            have := (hmem x).mpr hx
            cases this
          | cons y r => simp
        · have hn := HNONE.out h
          cases ol with
          | nil => rfl
          | cons y r =>
            have := (hmem y).mp (by simp)
            rw [hn] at this
            cases this
      have HMEM := Aside0.mk (fun x hx => HORG.out x ((hmem x).mp hx))
      clear hCO hmem hb4 HOC HB HORG HSOME HNONE
      obtain ⟨wp, rfl⟩ : ∃ wp : World, wp = w4 := ⟨_, rfl⟩
      go_wp2_with fail
      go_loopg [12] ol.length (fun gg s12 wr => ∃ q : Nat, q ≤ ol.length ∧ ol.length - q ≤ gg ∧ s12 = .int .i64 (q : Int) ∧ Aside0 (wr = wp))
      case atStart => exact ⟨0, Nat.zero_le _, by omega, rfl, ⟨rfl⟩⟩
      case round =>
      obtain ⟨q, hq, hgq, rfl, hw⟩ := hrel
      have hw' := hw.out.symm
      subst hw'
      clear hw
      by_cases hlq : q < ol.length
      · obtain ⟨ad7, e7, y0⟩ := Kd.at_int HCO.out (q : Int) (by omega) (by omega)
        subst e7
        have hrd : rd ol (q : Int) = ol[q] := by
          unfold rd
          simp [List.getD_eq_getElem?_getD, hlq]
        rw [hrd] at y0
        obtain ⟨j, hj, hx, hkd⟩ := HMEM.out ol[q] (List.getElem_mem _)
        rw [hx] at y0
        have hk5 := HRK.out j hj
        rw [hkd] at hk5
        simp only [Int.toNat_natCast] at y0
        have m1 : wrap64 ((j : Int) + 1 - 1) = (j : Int) := by unfold wrap64; omega
        have m2 : IntKind.i64.wrap ((j : Int) + 1 - 1) = (j : Int) := (IntWalk.i64_in _ (by omega)).trans (by omega)
        have m5 : (j : Int) < (l.length : Int) := by omega
        have m6 : ((j : Int) + 1 - 1) = (j : Int) := by omega
        have m7 : (q : Int) < (ol.length : Int) := by omega
        clear hrd hx hkd HMEM HRK HCO
        go_wp2_with fail
        go_roundg (ol.length - (q + 1))
        case measure => omega
        case rel => exact ⟨q + 1, by omega, by omega, by first | rfl | go_num, ⟨rfl⟩⟩
      · have hz4 : decide (q < ol.length) = false := by simp; omega
        have hz5 : decide ((q : Int) < (ol.length : Int)) = false := by simp; omega
        have m8 : (0 : Int) < (l.length : Int) := by omega
        clear hlq hgq hq HMEM HRK HCO
        cases eb with
        | true =>
          have hp := hO.1 rfl
          have m1 : decide ((0 : Int) < (ol.length : Int)) = true := decide_eq_true (by omega)
          have m2 : ((0 : Int) < (ol.length : Int)) = True := eq_true (by omega)
          have m3 : decide (0 < ol.length) = true := decide_eq_true hp
          have m4 : (0 < ol.length) = True := eq_true hp
          clear hO hp
          go_wp2_with fail
          go_roundg (ts.length - (i + 1))
          case measure => omega
          case rel => exact ⟨i + 1, by omega, by omega, by first | rfl | go_num, HB4⟩
        | false =>
          have hp := hO.2 rfl
          have m1 : decide ((0 : Int) < (ol.length : Int)) = false := decide_eq_false (by omega)
          have m2 : ((0 : Int) < (ol.length : Int)) = False := eq_false (by omega)
          have m3 : decide (0 < ol.length) = false := decide_eq_false (by omega)
          have m4 : (0 < ol.length) = False := eq_false (by omega)
          clear hO hp
          go_wp2_with fail
          go_roundg (ts.length - (i + 1))
          case measure => omega
          case rel => exact ⟨i + 1, by omega, by omega, by first | rfl | go_num, HB4⟩
  · have hz1 : decide (i < ts.length) = false := by simp; omega
    have hz2 : decide ((i : Int) < (ts.length : Int)) = false := by simp; omega
    clear hlt
    go_wp2
    go_ret
    exact ⟨rfl, below_step HB3.out HB.out⟩
end Go.Proofs.Ytdadnapfecmmdaa.P
namespace Go.Proofs.Ytdadnapfecmmdaa.P
set_option linter.unusedVariables false
set_option linter.unusedSimpArgs false
open Go.RowKit Go.Proofs.YtdadnapfecmmdaaW.PrintWords Go.Proofs.YtdadnapfecmmdaaW.PrintLast Go.Proofs.YtdadnapfecmmdaaW.PrintMore
theorem u8list (cs : List Value) (h : ∀ i (hi : i < cs.length), ∃ n, cs[i] = .int .u8 n ∧ U8 n) : ∃ ns : List Int, cs = ns.map (Value.int .u8) ∧ ∀ n ∈ ns, U8 n := by
  induction cs with
  | nil => exact ⟨[], rfl, by simp⟩
  | cons c r ih =>
    obtain ⟨n, e, hn⟩ := h 0 (by simp)
    obtain ⟨ns, e2, h2⟩ := ih (fun i hi => by
      have := h (i + 1) (by simp; omega)
      simpa using this)
    refine ⟨n :: ns, ?_, ?_⟩
    · simp only [List.getElem_cons_zero] at e
      rw [e, e2]; rfl
    · intro m hm
      rcases List.mem_cons.mp hm with rfl | hm
      · exact hn
      · exact h2 m hm
section
variable {H : Type} {enc : TypeId × Value → H} {w : World} {base : Nat} {sp : Nat → Bool} {held : Bool}
theorem u8struct {e : TypeId} {fs : Array Field} {fuel : Nat} {cs : List Value} {x : DataW H × List MemPlace} (ht : Try.prog.underlying e = some (.struct fs)) (hc : Try.prog.cellsOf e = fs.size)
    (hone : ∀ i (h : i < fs.size), fs[i].type = 5 ∧ fs[i].offset = i) (h : DataW.trod enc Try.prog w base sp held fuel e cs = some x) : ∃ ns : List Int, cs = ns.map (Value.int .u8) ∧ ns.length = fs.size ∧ ∀ n ∈ ns, U8 n := by
  obtain ⟨xs, n, _, _, hl, hxl, hf⟩ := DataW.trod_struct ht h
  rw [hc] at hl
  obtain ⟨ns, e1, e2⟩ := u8list cs (fun i hi => by
    obtain ⟨q1, q2⟩ := hone i (by omega)
    have g := hf i fs[i] (by simp [show i < fs.size by omega])
    rw [q1, q2, List.getElem?_eq_getElem (by omega)] at g
    obtain ⟨m, e, _, hw⟩ := DataW.trod_int Try.underlying5 g
    have c5 : Try.prog.cellsOf 5 = 1 := by kernel_rfl
    rw [c5, List.drop_eq_getElem_cons (by omega)] at e
    simp only [List.take_succ_cons, List.take_zero, List.cons.injEq, and_true] at e
    exact ⟨m, e, bounds_u8 hw⟩)
  exact ⟨ns, e1, by rw [e1, List.length_map] at hl; exact hl, e2⟩
theorem u8slice {α : Type} (d : Kd α) (mk : List Int → α) {t e : TypeId} {fs : Array Field} {fuel : Nat} {cs : List Value} {x : DataW H × List MemPlace} (hs : Try.prog.underlying t = some (.slice e)) (ht : Try.prog.underlying e = some (.struct fs)) (hc : Try.prog.cellsOf e = fs.size)
    (hsz : d.sz = fs.size) (hone : ∀ i (h : i < fs.size), fs[i].type = 5 ∧ fs[i].offset = i) (hmk : ∀ (W : World) ns, ns.length = fs.size → d.K W (mk ns) (ns.map (Value.int .u8)))
    (h : DataW.trod enc Try.prog w base sp held fuel t cs = some x) :
    ∃ A c, ∃ l : List α, cs = [.slice A l.length c] ∧ l.length ≤ c ∧ d.C w A l.length l ∧ ∀ y ∈ l, ∃ ns, y = mk ns ∧ ns.length = fs.size ∧ ∀ n ∈ ns, U8 n := by
  rcases Go.Deep.open_slice hs h with ⟨rfl, _⟩ | ⟨a, len, cap, m, n, D, Pl, rfl, hb, hle, hcap, hm, _, hel⟩
  · exact ⟨none, 0, [], rfl, Nat.le_refl _, ⟨rfl, by simp, fun h => absurd h (by simp)⟩, by simp⟩
  · have key : ∀ j : Nat, ∃ ns : List Int, j < len → ns.length = fs.size ∧ (∀ n ∈ ns, U8 n) ∧ ∀ i u, (ns.map (Value.int .u8))[i]? = some u → w.cell? (a.add (j * fs.size + i)) = some u := fun j => by
      by_cases hj : j < len
      · obtain ⟨cs', h1, h2⟩ := hel j (by rw [hm]; split <;> omega)
        obtain ⟨ns, rfl, h3, h4⟩ := u8struct ht hc hone h2
        refine ⟨ns, fun _ => ⟨h3, h4, fun i u hu => ?_⟩⟩
        obtain ⟨_, hlen, hcell⟩ := World.cells?_some h1
        have hi : i < fs.size := by
          have := (List.getElem?_eq_some_iff.mp hu).1
          rw [List.length_map] at this
          omega
        rw [hc] at hcell
        rw [← Go.Deep.add_add, hcell i hi]
        exact hu
      · exact ⟨[], fun h => absurd h hj⟩
    obtain ⟨f, hf⟩ := Classical.axiomOfChoice key
    have hll : ((List.range len).map fun j => mk (f j)).length = len := by simp
    refine ⟨some a, cap, (List.range len).map fun j => mk (f j), by rw [hll], by rw [hll]; exact hle, ?_, ?_⟩
    · rw [hll]
      refine ⟨hll, by have : maxLen ≤ 9223372036854775807 := by decide
                      omega, fun _ => ⟨a, rfl, fun j y hy => ?_⟩⟩
      rw [List.getElem?_map] at hy
      obtain ⟨j', hj', rfl⟩ := Option.map_eq_some_iff.mp hy
      obtain ⟨hjl, e⟩ := List.getElem?_eq_some_iff.mp hj'
      rw [List.getElem_range] at e
      subst e
      rw [List.length_range] at hjl
      obtain ⟨g1, g2, g3⟩ := hf j hjl
      exact ⟨(f j).map (Value.int .u8), by rw [List.length_map, g1, hsz], hmk w _ g1, fun i u hu => by rw [hsz]; exact g3 i u hu⟩
    · intro y hy
      obtain ⟨j, hj, rfl⟩ := List.mem_map.mp hy
      obtain ⟨g1, g2, _⟩ := hf j (List.mem_range.mp hj)
      exact ⟨f j, rfl, g1, g2⟩
def mk87 (ns : List Int) : S87 := ⟨ns.getD 0 0, ns.getD 1 0, ns.getD 2 0, ns.getD 3 0, ns.getD 4 0⟩
def mk93 (ns : List Int) : S93 := ⟨ns.getD 0 0, ns.getD 1 0, ns.getD 2 0, ns.getD 3 0, ns.getD 4 0⟩
def mk59 (ns : List Int) : S59 := ⟨ns.getD 0 0, ns.getD 1 0, ns.getD 2 0, ns.getD 3 0, ns.getD 4 0, ns.getD 5 0⟩
theorem mk87_K (W : World) (ns : List Int) (h : ns.length = 5) : k87.K W (mk87 ns) (ns.map (Value.int .u8)) := by
  match ns, h with
  | [a, b, c, d, e], _ => exact k87_mk W ⟨a, b, c, d, e⟩
theorem mk93_K (W : World) (ns : List Int) (h : ns.length = 5) : k93.K W (mk93 ns) (ns.map (Value.int .u8)) := by
  match ns, h with
  | [a, b, c, d, e], _ => exact k93_mk W ⟨a, b, c, d, e⟩
theorem mk59_K (W : World) (ns : List Int) (h : ns.length = 6) : k59.K W (mk59 ns) (ns.map (Value.int .u8)) := by
  match ns, h with
  | [a, b, c, d, e, f], _ => exact k59_mk W ⟨a, b, c, d, e, f⟩
def Fields5 (fs : Array Field) : Bool := (List.range fs.size).all fun i => match fs[i]? with
  | some f => f.type == 5 && f.offset == i
  | none => false
theorem fields5 {fs : Array Field} (h : Fields5 fs = true) : ∀ i (h : i < fs.size), fs[i].type = 5 ∧ fs[i].offset = i := fun i hi => by
  have := List.all_eq_true.mp h i (List.mem_range.mpr hi)
  simp only [Array.getElem?_eq_getElem hi, Bool.and_eq_true, beq_iff_eq] at this
  exact this
set_option maxRecDepth 100000 in
theorem openOffs {fuel : Nat} {c0 c1 c2 : Value} {x : DataW H × List MemPlace} (h : DataW.trod enc Try.prog w base sp held fuel 37 [c0, c1, c2] = some x) : ∃ a b c : Int, c0 = .int .i8 a ∧ c1 = .int .i8 b ∧ c2 = .int .i8 c ∧ I8 a ∧ I8 b ∧ I8 c := by
  obtain ⟨xs, m, _, _, hl, hn, hi⟩ := DataW.trod_array Try.underlying37 h
  obtain ⟨x0, x1, x2, rfl⟩ : ∃ a b c, xs = [a, b, c] := by
    match xs, hn with
    | [a, b, c], _ => exact ⟨a, b, c, rfl⟩
  have h0 := hi 0 (by decide)
  have h1 := hi 1 (by decide)
  have h2 := hi 2 (by decide)
  have cc : Try.prog.cellsOf 36 = 1 := by kernel_rfl
  rw [cc] at h0 h1 h2
  obtain ⟨n0, e0, _, w0⟩ := DataW.trod_int Try.underlying36 (x := x0) h0
  obtain ⟨n1, e1, _, w1⟩ := DataW.trod_int Try.underlying36 (x := x1) h1
  obtain ⟨n2, e2, _, w2⟩ := DataW.trod_int Try.underlying36 (x := x2) h2
  simp at e0 e1 e2
  exact ⟨n0, n1, n2, e0, e1, e2, bounds_i8 w0, bounds_i8 w1, bounds_i8 w2⟩
theorem openU8 {fuel : Nat} {c : Value} {x : DataW H × List MemPlace} (h : DataW.trod enc Try.prog w base sp held fuel 5 [c] = some x) : ∃ n : Int, c = .int .u8 n ∧ U8 n := by
  obtain ⟨n, e, _, hw⟩ := DataW.trod_int Try.underlying5 h
  simp at e
  exact ⟨n, e, bounds_u8 hw⟩
set_option maxRecDepth 100000 in
theorem openPlan {r : Reach} {b : Nat} {v : Value} {d : DataW H} {ps : List MemPlace} (hv : Value.okWide Try.prog w r b 41 v) (h : DataW.Trod enc Try.prog w base sp held 41 v d ps) : ∃ (p : Plan) (a : PlanAt), v = .agg (p.cells a) ∧ PlanR w a p ∧ PlanOk p := by
  obtain ⟨cs, rfl, hs⟩ : ∃ cs : Array Value, v = .agg cs ∧ cs.size = 14 := by
    simp only [Value.okWide, Try.underlying41] at hv
    obtain ⟨cs, h1, h2, _⟩ := hv
    exact ⟨cs, h1, by rw [h2]; kernel_rfl⟩
  obtain ⟨cs⟩ := cs
  obtain ⟨c0, c1, c2, c3, c4, c5, c6, c7, c8, c9, c10, c11, c12, c13, rfl⟩ : ∃ c0 c1 c2 c3 c4 c5 c6 c7 c8 c9 c10 c11 c12 c13, cs = [c0, c1, c2, c3, c4, c5, c6, c7, c8, c9, c10, c11, c12, c13] := by
    match cs, hs with
    | [c0, c1, c2, c3, c4, c5, c6, c7, c8, c9, c10, c11, c12, c13], _ => exact ⟨c0, c1, c2, c3, c4, c5, c6, c7, c8, c9, c10, c11, c12, c13, rfl⟩
  obtain ⟨fuel, hf⟩ := h
  obtain ⟨xs, m, _, _, hl, hn, hi⟩ := DataW.trod_struct Try.underlying41 hf
  obtain ⟨x0, x1, x2, x3, x4, x5, x6, x7, x8, x9, x10, x11, rfl⟩ : ∃ x0 x1 x2 x3 x4 x5 x6 x7 x8 x9 x10 x11, xs = [x0, x1, x2, x3, x4, x5, x6, x7, x8, x9, x10, x11] := by
    match xs, hn with
    | [x0, x1, x2, x3, x4, x5, x6, x7, x8, x9, x10, x11], _ => exact ⟨x0, x1, x2, x3, x4, x5, x6, x7, x8, x9, x10, x11, rfl⟩
  have k5 : Try.prog.cellsOf 5 = 1 := by kernel_rfl
  have k35 : Try.prog.cellsOf 35 = 1 := by kernel_rfl
  have k37 : Try.prog.cellsOf 37 = 3 := by kernel_rfl
  have k38 : Try.prog.cellsOf 38 = 1 := by kernel_rfl
  have k39 : Try.prog.cellsOf 39 = 1 := by kernel_rfl
  have g0 := hi 0 { name := "Seed", type := 5, offset := 0, embedded := false, tag := "", pkgPath := "", byteOffset := 0 } rfl
  have g1 := hi 1 { name := "Parts", type := 35, offset := 1, embedded := false, tag := "", pkgPath := "", byteOffset := 8 } rfl
  have g2 := hi 2 { name := "Offsets", type := 37, offset := 2, embedded := false, tag := "", pkgPath := "", byteOffset := 32 } rfl
  have g3 := hi 3 { name := "Changes", type := 38, offset := 5, embedded := false, tag := "", pkgPath := "", byteOffset := 40 } rfl
  have g4 := hi 4 { name := "Troubles", type := 39, offset := 6, embedded := false, tag := "", pkgPath := "", byteOffset := 64 } rfl
  have g5 := hi 5 { name := "First", type := 5, offset := 7, embedded := false, tag := "", pkgPath := "", byteOffset := 88 } rfl
  have g6 := hi 6 { name := "Slots", type := 5, offset := 8, embedded := false, tag := "", pkgPath := "", byteOffset := 89 } rfl
  have g7 := hi 7 { name := "PerSlot", type := 5, offset := 9, embedded := false, tag := "", pkgPath := "", byteOffset := 90 } rfl
  have g8 := hi 8 { name := "Delay", type := 5, offset := 10, embedded := false, tag := "", pkgPath := "", byteOffset := 91 } rfl
  have g9 := hi 9 { name := "Chunk", type := 5, offset := 11, embedded := false, tag := "", pkgPath := "", byteOffset := 92 } rfl
  have g10 := hi 10 { name := "Loss", type := 5, offset := 12, embedded := false, tag := "", pkgPath := "", byteOffset := 93 } rfl
  have g11 := hi 11 { name := "Repeat", type := 5, offset := 13, embedded := false, tag := "", pkgPath := "", byteOffset := 94 } rfl
  simp only [k5, k35, k37, k38, k39] at g0 g1 g2 g3 g4 g5 g6 g7 g8 g9 g10 g11
  obtain ⟨n0, rfl, b0⟩ := openU8 (c := c0) (x := x0) g0
  obtain ⟨A1, d1, l1, e1, hl1, hc1, ho1⟩ := u8slice k87 mk87 Try.underlying35 Try.underlying87 (by kernel_rfl) (by kernel_rfl) (fields5 (by kernel_rfl)) mk87_K (x := x1) g1
  obtain ⟨o0, o1, o2, rfl, rfl, rfl, bo0, bo1, bo2⟩ := openOffs (c0 := c2) (c1 := c3) (c2 := c4) (x := x2) g2
  obtain ⟨A2, d2, l2, e2, hl2, hc2, ho2⟩ := u8slice k93 mk93 Try.underlying38 Try.underlying93 (by kernel_rfl) (by kernel_rfl) (fields5 (by kernel_rfl)) mk93_K (x := x3) g3
  obtain ⟨A3, d3, l3, e3, hl3, hc3, ho3⟩ := u8slice k59 mk59 Try.underlying39 Try.underlying59 (by kernel_rfl) (by kernel_rfl) (fields5 (by kernel_rfl)) mk59_K (x := x4) g4
  obtain ⟨n5, rfl, b5⟩ := openU8 (c := c7) (x := x5) g5
  obtain ⟨n6, rfl, b6⟩ := openU8 (c := c8) (x := x6) g6
  obtain ⟨n7, rfl, b7⟩ := openU8 (c := c9) (x := x7) g7
  obtain ⟨n8, rfl, b8⟩ := openU8 (c := c10) (x := x8) g8
  obtain ⟨n9, rfl, b9⟩ := openU8 (c := c11) (x := x9) g9
  obtain ⟨n10, rfl, b10⟩ := openU8 (c := c12) (x := x10) g10
  obtain ⟨n11, rfl, b11⟩ := openU8 (c := c13) (x := x11) g11
  obtain rfl : c1 = .slice A1 l1.length d1 := by simpa [Value.cells] using e1
  obtain rfl : c5 = .slice A2 l2.length d2 := by simpa [Value.cells] using e2
  obtain rfl : c6 = .slice A3 l3.length d3 := by simpa [Value.cells] using e3
  refine ⟨⟨n0, l1, o0, o1, o2, l2, l3, n5, n6, n7, n8, n9, n10, n11⟩, ⟨A1, d1, A2, d2, A3, d3⟩, rfl, ⟨hc1, hl1, hc2, hl2, hc3, hl3⟩, ⟨b0, bo0, bo1, bo2, b5, b6, b7, b8, b9, b10, b11, ?_, ?_, ?_⟩⟩
  · intro x hx
    obtain ⟨ns, rfl, hq, hu⟩ := ho1 x hx
    match ns, hq with
    | [q0, q1, q2, q3, q4], _ => exact ⟨hu q0 (by simp), hu q1 (by simp), hu q2 (by simp), hu q3 (by simp), hu q4 (by simp)⟩
  · intro x hx
    obtain ⟨ns, rfl, hq, hu⟩ := ho2 x hx
    match ns, hq with
    | [q0, q1, q2, q3, q4], _ => exact ⟨hu q0 (by simp), hu q1 (by simp), hu q2 (by simp), hu q3 (by simp), hu q4 (by simp)⟩
  · intro x hx
    obtain ⟨ns, rfl, hq, hu⟩ := ho3 x hx
    match ns, hq with
    | [q0, q1, q2, q3, q4, q5], _ => exact ⟨hu q0 (by simp), hu q1 (by simp), hu q2 (by simp), hu q3 (by simp), hu q4 (by simp), hu q5 (by simp)⟩
end
end Go.Proofs.Ytdadnapfecmmdaa.P
