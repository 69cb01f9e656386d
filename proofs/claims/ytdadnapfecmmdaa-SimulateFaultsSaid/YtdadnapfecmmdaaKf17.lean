/- Own texts of a proof about layer 55's simulate (merged): Ft, Fv, Po. -/
import Derived.Test.YtdadnapfecmmdaaKf13
import Derived.Test.YtdadnapfecmmdaaKf14
import Derived.Test.YtdadnapfecmmdaaKf15
import Derived.Test.YtdadnapfecmmdaaKf16
import Derived.Test.YtdadnapfecmmdaaKf3
import Derived.Test.YtdadnapfecmmdaaKf5
import Derived.Deep.DeepMust
import Derived.Deep.Slices
import Derived.WalkKit
import Derived.ProofKit
import Derived.OpenShut
import Derived.ChangeOld
namespace Go.Proofs.Ytdadnapfecmmdaa.P
set_option linter.unusedVariables false
set_option linter.unusedSimpArgs false
open Go.RowKit Go.Proofs.YtdadnapfecmmdaaW.PrintWords Go.Proofs.YtdadnapfecmmdaaW.PrintLast Go.Proofs.YtdadnapfecmmdaaW.PrintMore
open Go.Proofs.Ytdadnapfecmmdaa.Hm
def tail11F : { c : Code // tailFrom 11 (Try.f5.body.getD .skip) = some c } := ⟨_, by rfl⟩
set_option maxHeartbeats 8000000 in
set_option maxRecDepth 100000 in
theorem faults_tail (w w17 : World) (f : S61) (gf lf : Nat) (lb : Bool) (ta tb : List Tr) (AA AB : Option Addr) (cA cB : Nat) (hcA : ta.length ≤ cA) (hcB : ta.length ≤ cB) (htb : tb.length = ta.length) (HTR : Aside0 (∀ i (h : i < ta.length) (h' : i < tb.length), FRel f (lf = 0) ta[i] tb[i]))
    (HFB6 : Aside0 (w17.heap[gf]? = some (.cells #[.string f.f0, .string f.f1, .int .i64 f.f2.f0, .int .i64 f.f2.f1, .int .i64 f.f3, .int .i64 f.f4] 61 (0, 0)))) (HB10 : Aside0 (Below w.heap.size w w17)) (HCA10 : Aside0 (Kd.C k51 w17 AA ta.length (ta.map toT))) (HCB10 : Aside0 (Kd.C k51 w17 AB ta.length (tb.map toT))) (HLB : Aside0 (lb = true → lf = 0)) {q0 q1 q2 q3 q4 q5 q6 q8 q10 q13 q14 q15 q16 q17 q18 q19 q20 q21 q22 q23 q24 q25 q26 q27 q28 q29 q30 q31 q32 q33 q34 q35 q36 q37 q38 q39 q40 q41 q42 q43 q44 q45 q46 q47 q48 q49 q50 q51 q52 q53 q54 q55 q56 q57 q58 q59 q60 q61 q62 q63 q64 q65 q66 q67 q68 q69 q70 q71 q72 q73 q74 q75 q76 q77 q78 q79 q80 q81 q82 q83 q84 q85 q86 q87 q88 q89 q90 q91 q92 q93 q94 q95 q96 q97 q98 q99 q100 q101 q102 q103 q104 q105 q106 q107 q108 q109 q110 q111 q112 q113 q114 q115 q116 q117 q118 q119 q120 q121 q122 q123 q124 q125 q126 q127 q128 q129 q130 q131 q132 q133 q134 q135 q136 q137 q138 q139 q140 q141 q142 q143 q144 q145 q146 q147 q148 q149 q150 q151 q152 q153 q154 q155 q156 q157 q158 q159 q160 q161 q162 q163 q164 q165 q166 q167 q168 q169 q170 q171 q172 q173 q174 q175 q176 q177 q178 q179 q180 q181 q182 q183 q184 q185 q186 q187 q188 q189 : Value} :
    Code.wp Try.prog tail11F.1 (bodyPost Try.prog Try.f5 fun e w' => e = .returned (.bool true) ∧ Below w.heap.size w w') { tmps := List.toArray (q0 :: q1 :: q2 :: q3 :: q4 :: q5 :: q6 :: (.slice AA ta.length cA) :: q8 :: (.slice AB ta.length cB) :: q10 :: (.pointer (some ⟨gf, 0, none⟩)) :: (.bool lb) :: q13 :: q14 :: q15 :: q16 :: q17 :: q18 :: q19 :: q20 :: q21 :: q22 :: q23 :: q24 :: q25 :: q26 :: q27 :: q28 :: q29 :: q30 :: q31 :: q32 :: q33 :: q34 :: q35 :: q36 :: q37 :: q38 :: q39 :: q40 :: q41 :: q42 :: q43 :: q44 :: q45 :: q46 :: q47 :: q48 :: q49 :: q50 :: q51 :: q52 :: q53 :: q54 :: q55 :: q56 :: q57 :: q58 :: q59 :: q60 :: q61 :: q62 :: q63 :: q64 :: q65 :: q66 :: q67 :: q68 :: q69 :: q70 :: q71 :: q72 :: q73 :: q74 :: q75 :: q76 :: q77 :: q78 :: q79 :: q80 :: q81 :: q82 :: q83 :: q84 :: q85 :: q86 :: q87 :: q88 :: q89 :: q90 :: q91 :: q92 :: q93 :: q94 :: q95 :: q96 :: q97 :: q98 :: q99 :: q100 :: q101 :: q102 :: q103 :: q104 :: q105 :: q106 :: q107 :: q108 :: q109 :: q110 :: q111 :: q112 :: q113 :: q114 :: q115 :: q116 :: q117 :: q118 :: q119 :: q120 :: q121 :: q122 :: q123 :: q124 :: q125 :: q126 :: q127 :: q128 :: q129 :: q130 :: q131 :: q132 :: q133 :: q134 :: q135 :: q136 :: q137 :: q138 :: q139 :: q140 :: q141 :: q142 :: q143 :: q144 :: q145 :: q146 :: q147 :: q148 :: q149 :: q150 :: q151 :: q152 :: q153 :: q154 :: q155 :: q156 :: q157 :: q158 :: q159 :: q160 :: q161 :: q162 :: q163 :: q164 :: q165 :: q166 :: q167 :: q168 :: q169 :: q170 :: q171 :: q172 :: q173 :: q174 :: q175 :: q176 :: q177 :: q178 :: q179 :: q180 :: q181 :: q182 :: q183 :: q184 :: q185 :: q186 :: q187 :: q188 :: q189 :: []), defers := [] } w17 := by
  have hnA : ta.length ≤ 9223372036854775807 := HCA10.out.2.1
  dsimp only [tail11F]
  go_wp2_with fail
  go_loopg [13, 14, 15, 16, 17] ta.length (fun gg s13 s14 s15 s16 s17 wr => ∃ i : Nat, i ≤ ta.length ∧ ta.length - i ≤ gg ∧ s13 = .int .i64 (i : Int) ∧ Aside0 (Below w17.heap.size w17 wr))
  case atStart => exact ⟨0, Nat.zero_le _, by omega, rfl, ⟨Below.refl _ _⟩⟩
  case round =>
  obtain ⟨i, hi, hgi, rfl, HB⟩ := hrel
  by_cases hlt : i < ta.length
  · obtain ⟨ad, A2', k2, e, t0, -, t2, hk2, hC2⟩ := at_T51 HCA10.out (i : Int) (by omega) (by omega)
    obtain ⟨ae, B2', m2, e2, -, -, u2, hm2, hD2⟩ := at_T51 HCB10.out (i : Int) (by omega) (by omega)
    subst e e2
    have hFR := HTR.out i hlt (by omega)
    have HOA := C_oneAt HCA10.out i (by simpa using hlt)
    have HOB := C_oneAt HCB10.out i (by simp; omega)
    rw [List.getElem_map] at HOA HOB
    rw [rdT_at ta i hlt] at t0 t2 hC2 hk2
    rw [rdT_at tb i (by omega)] at u2 hD2 hm2
    generalize ta[i] = x at hFR HOA t0 t2 hC2 hk2
    generalize tb[i] = y at hFR HOB u2 hD2 hm2
    simp only [Int.toNat_natCast, toT, List.length_map] at t0 t2 u2 hC2 hD2 hk2 hm2
    have hxy := hFR.len
    have hx160 := hFR.most
    rw [hxy] at u2 hm2
    have hrow2 : y.l.length = x.l.length := hxy
    rw [hxy] at hD2
    have HDU := Aside0.mk hFR.dur
    have HSM := Aside0.mk hFR.same
    replace t0 := (HB.out.cell (World.block_lt_of_cell? _ _ t0)).trans t0
    replace t2 := (HB.out.cell (World.block_lt_of_cell? _ _ t2)).trans t2
    replace u2 := (HB.out.cell (World.block_lt_of_cell? _ _ u2)).trans u2
    have HCX := Aside0.mk (Kd.C_below hC2 HB.out)
    have HCY := Aside0.mk (Kd.C_below hD2 HB.out)
    have HOA1 := Aside0.mk (Kd.C_below HOA HB.out)
    have HOB1 := Aside0.mk (Kd.C_below HOB HB.out)
    have HFB1 := Aside0.mk (blk_below HFB6.out HB.out)
    have hz1 : (i : Int) < (ta.length : Int) := by omega
    clear hC2 hD2 HOA HOB hFR HTR HCA10 HCB10 hxy
    go_wp2_with fail
    refine (span_Slot.calls x.id (x.id / 1048576) _ rfl).mono ?_
    rintro e ws ⟨rfl, hdr⟩
    have hbs : Below wr.heap.size wr ws := by
      obtain ⟨nd, rfl⟩ := hdr
      exact pw_below_drewN (Below.refl _ _) nd
    clear hdr
    generalize x.id / 1048576 = slot at HDU HSM ⊢
    have HBS := Aside0.mk hbs
    clear hbs
    obtain ⟨wo, rfl⟩ : ∃ wo : World, wo = wr := ⟨_, rfl⟩
    go_wp2_with fail
    go_loopg [15, 16, 17] x.l.length (fun gg s15 s16 s17 wq => ∃ (k : Nat) (cb : Bool), k ≤ x.l.length ∧ x.l.length - k ≤ gg ∧ s15 = .bool cb ∧ s16 = .int .i64 (k : Int) ∧ Aside0 (cb = false → ∀ j (_ : j < k) (hj : j < x.l.length), ¬ ConcS f slot x.l[j]) ∧ Aside0 (Below wo.heap.size wo wq))
    case atStart => exact ⟨0, false, Nat.zero_le _, by omega, rfl, rfl, ⟨fun _ j hj => absurd hj (Nat.not_lt_zero _)⟩, HBS⟩
    case round =>
    clear HBS
    obtain ⟨k, cb, hk, hgk, rfl, rfl, HN, HBQ⟩ := hrel
    have t2q := (HBQ.out.cell (World.block_lt_of_cell? _ _ t2)).trans t2
    by_cases hlk : k < x.l.length
    · have hz2 : (k : Int) < (x.l.length : Int) := by omega
      have HCX2 := Aside0.mk (Kd.C_below HCX.out HBQ.out)
      go_upto_region 18 with fail
      go_cut [17] (fun s17 wz => ∃ (gs : Nat) (A12 : Option Addr) (c12 : Nat) (A13 : Option Addr) (c13 : Nat), s17 = .pointer (some ⟨gs, 0, none⟩) ∧ Aside0 (wz.heap[gs]? = some (.cells (sv14 x.l[k] A12 c12 A13 c13) 56 (0, 0))) ∧ Aside0 (Below wr.heap.size wr wz))
      case first =>
        refine faults_reg18 x.l i k ta.length cA k2 ad A2' wr hlt hlk t2q HCX2 _ (fun _ _ N _ _ h => by cases N <;> exact h) _ ⟨fun h => ?_⟩
        go_step
        go_meet
        exact h
      case rest =>
        clear HCX2 t2q
        obtain ⟨gs, A12, c12, A13, c13, rfl, HSB, HBN⟩ := hcut
        have HB7 := Aside0.mk (below_step HBQ.out HBN.out)
        have HFB7 := Aside0.mk (blk_below HFB1.out HB7.out)
        have s5 : wc.cell? ⟨gs, 5, none⟩ = some (.int .i64 x.l[k].kind) := (blk_cell HSB.out 5).trans rfl
        have s6 : wc.cell? ⟨gs, 6, none⟩ = some (.string x.l[k].svc) := (blk_cell HSB.out 6).trans rfl
        have s7 : wc.cell? ⟨gs, 7, none⟩ = some (.string x.l[k].ver) := (blk_cell HSB.out 7).trans rfl
        have y0 : wc.cell? ⟨gf, 0, none⟩ = some (.string f.f0) := (blk_cell HFB7.out 0).trans rfl
        have y1 : wc.cell? ⟨gf, 1, none⟩ = some (.string f.f1) := (blk_cell HFB7.out 1).trans rfl
        have y2 : wc.cell? ⟨gf, 2, none⟩ = some (.int .i64 f.f2.f0) := (blk_cell HFB7.out 2).trans rfl
        have y3 : wc.cell? ⟨gf, 3, none⟩ = some (.int .i64 f.f2.f1) := (blk_cell HFB7.out 3).trans rfl
        go_upto_region 19 with fail
        obtain ⟨WC, rfl⟩ : ∃ W : World, W = wc := ⟨_, rfl⟩
        go_cut [155] (fun s155 wz => ∃ nb : Bool, s155 = .bool nb ∧ Aside0 (nb = true → ¬ ConcS f slot x.l[k]) ∧ Aside0 (nb = false → ConcS f slot x.l[k]) ∧ Aside0 (wz = WC))
        case first =>
          refine faults_reg19 f slot x.l[k] gf gs WC s5 s6 s7 y0 y1 y2 y3 _ (fun _ _ N _ _ h => by cases N <;> exact h) _ ⟨fun h => ?_⟩
          go_step
          go_meet
          exact h
        case rest =>
          obtain ⟨nb, rfl, hn1, hn2, hw⟩ := hcut
          have hw2 : WC = wc := hw.out.symm
          subst hw2
          clear hw s5 s6 s7 y0 y1 y2 y3
          have hnk : ∀ b : Bool, (b = false → ¬ ConcS f slot x.l[k]) → Aside0 ((cb || b) = false → ∀ j (_ : j < k + 1) (hj : j < x.l.length), ¬ ConcS f slot x.l[j]) := fun b hb => ⟨fun h j hj hjl => by
            simp only [Bool.or_eq_false_iff] at h
            by_cases hjk : j < k
            · exact HN.out h.1 j hjk hjl
            · obtain rfl : j = k := by omega
              exact hb h.2⟩
          cases nb with
          | true =>
            have HNX := hnk false (fun _ => hn1.out rfl)
            clear hn1 hn2 hnk HN HSB HFB7 HCX HCY HDU HSM HOA1 HOB1 HFB1
            go_wp2_with fail
            go_roundg (x.l.length - (k + 1))
            case measure => omega
            case rel => exact ⟨k + 1, cb, by omega, by omega, rfl, by first | rfl | go_num, by simpa using HNX, HB7⟩
          | false =>
            have hcc := Aside0.mk (hn2.out rfl)
            have HNX := hnk true (fun h => by cases h)
            have u2q := (HB7.out.cell (World.block_lt_of_cell? _ _ u2)).trans u2
            have HCY2 := Aside0.mk (Kd.C_below HCY.out HB7.out)
            have KD : Aside0 (lb = true → wrap64 (wrap64 (x.l[k].en - x.l[k].st) + f.f3) = wrap64 ((y.l[k]'(by omega)).en - (y.l[k]'(by omega)).st)) := ⟨fun hl => by
              rw [HDU.out k hlk (by omega) hcc.out (HLB.out hl)]
              unfold wrap64
              omega⟩
            clear hn1 hn2 hnk HN HCX HCY HDU HSM HOA1 HOB1 HFB1 hcc
            go_upto_region 21 with fail
            go_cut [173] (fun s173 wz => s173 = .bool false ∧ Aside0 (Below WC.heap.size WC wz))
            case first =>
              refine faults_reg21 f x.l[k] y.l lb i k ta.length x.l.length cB m2 gf gs ae B2' A12 c12 A13 c13 WC hlt hrow2 (by omega) u2q HCY2 HSB HFB7 KD _ (fun _ _ N _ _ h => by cases N <;> exact h) _ ⟨fun h => ?_⟩
              go_step
              go_meet
              exact h
            case rest =>
              obtain ⟨rfl, HB8⟩ := hcut
              have HB9 := Aside0.mk (below_step HB7.out HB8.out)
              clear HB8 HB7 u2q HCY2 HSB HFB7 KD
              go_wp2_with fail
              go_roundg (x.l.length - (k + 1))
              case measure => omega
              case rel => exact ⟨k + 1, true, by omega, by omega, rfl, by first | rfl | go_num, by simpa using HNX, HB9⟩
    · have hz2 : decide (k < x.l.length) = false := by simp; omega
      have hz3 : decide ((k : Int) < (x.l.length : Int)) = false := by simp; omega
      obtain rfl : k = x.l.length := by omega
      have HST : Aside0 (cb = false → ∀ W, Below wr.heap.size wr W → Calls Try.prog 20 #[.slice (some (ad.add (i * 3))) 1 (cA - i), .slice (some (ae.add (i * 3))) 1 (cB - i)] W fun e w' => e = .returned (.bool true) ∧ Below W.heap.size W w') := ⟨fun hcb W hb => by
        have hyx : y = x := HSM.out (fun j hj => HN.out hcb j hj hj)
        exact sameTraces_eq (some (ad.add (i * 3))) (cA - i) (some (ae.add (i * 3))) (cB - i) [x] W (Kd.C_below (Kd.C_below HOA1.out HBQ.out) hb) (by have := Kd.C_below (Kd.C_below HOB1.out HBQ.out) hb; rw [hyx] at this; exact this)⟩
      clear hlk hgk HCX HCY HDU HFB1 u2 HSM HOA1 HOB1 HN t2
      go_upto_region 23 with fail
      go_cut [189] (fun s189 wz => s189 = .bool false ∧ Aside0 (Below wr.heap.size wr wz))
      case first =>
        refine faults_reg23 cb i ta.length cA cB ad ae wr hlt hnA hcA hcB HST _ (fun _ _ N _ _ h => by cases N <;> exact h) _ ⟨fun h => ?_⟩
        go_step
        go_meet
        exact h
      case rest =>
        obtain ⟨rfl, HB8⟩ := hcut
        have HB9 := Aside0.mk (below_step (below_step HB.out HBQ.out) HB8.out)
        clear HB8 HBQ HST t2q
        go_wp2_with fail
        go_roundg (ta.length - (i + 1))
        case measure => omega
        case rel => exact ⟨i + 1, by omega, by omega, by first | rfl | go_num, HB9⟩
  · have hz1 : decide (i < ta.length) = false := by simp; omega
    have hz2 : decide ((i : Int) < (ta.length : Int)) = false := by simp; omega
    clear hlt
    go_wp2
    go_ret
    exact ⟨rfl, below_step HB10.out HB.out⟩
abbrev tcells (x : S59) : Array Value := #[.int .u8 x.f0, .int .u8 x.f1, .int .u8 x.f2, .int .u8 x.f3, .int .u8 x.f4, .int .u8 x.f5]
def Plan.two (p : Plan) : Plan := { p with trs := p.trs.take 2 }
def Plan.plus (p : Plan) (x : S59) : Plan := { p with trs := p.trs.take 2 ++ [x] }
theorem plus_cfg (p : Plan) (x : S59) : (p.plus x).cfg chgs47 = (p.two.cfg chgs47).more (trOf p.n x) := by
  have h : (p.plus x).flts = p.two.flts ++ [trOf p.n x] := by
    show ((p.trs.take 2 ++ [x]).take 3).map (trOf p.n) = ((p.trs.take 2).take 3).map (trOf p.n) ++ [trOf p.n x]
    rw [List.take_of_length_le (by simp; omega), List.take_of_length_le (l := p.trs.take 2) (by simp; omega)]
    simp
  have e : (p.plus x).cfg chgs47 = { p.two.cfg chgs47 with fl := (p.plus x).flts } := rfl
  rw [e, h]
  rfl
theorem two_ok {p : Plan} (h : PlanOk p) : PlanOk p.two :=
  ⟨h.seed, h.o0, h.o1, h.o2, h.first, h.slots, h.per, h.delay, h.chunk, h.loss, h.rep, h.parts, h.steps, fun x hx => h.trs x (List.mem_of_mem_take hx)⟩
theorem plus_ok {p : Plan} (h : PlanOk p) (x : S59) (hx : U8 x.f0 ∧ U8 x.f1 ∧ U8 x.f2 ∧ U8 x.f3 ∧ U8 x.f4 ∧ U8 x.f5) : PlanOk (p.plus x) :=
  ⟨h.seed, h.o0, h.o1, h.o2, h.first, h.slots, h.per, h.delay, h.chunk, h.loss, h.rep, h.parts, h.steps, fun y hy => by
    rcases List.mem_append.mp hy with hy | hy
    · exact h.trs y (List.mem_of_mem_take hy)
    · obtain rfl := List.mem_singleton.mp hy
      exact hx⟩
theorem PlanR.two {w : World} {a : PlanAt} {p : Plan} (h : PlanR w a p) : PlanR w a p.two :=
  ⟨h.r1, h.l1, h.r2, h.l2, C_takeN h.r3 2, Nat.le_trans (by show (p.trs.take 2).length ≤ _; rw [List.length_take]; omega) h.l3⟩
theorem plan14 {p : Plan} {a : PlanAt} {W : World} {g : Nat} (h : W.heap[g]? = some (.cells (p.cells a) 41 (0, 0))) : W.cell? ⟨g, 0, none⟩ = some (.int .u8 p.seed) ∧ W.cell? ⟨g, 1, none⟩ = some (.slice a.A1 p.parts.length a.c1) ∧ W.cell? ⟨g, 2, none⟩ = some (.int .i8 p.o0) ∧ W.cell? ⟨g, 3, none⟩ = some (.int .i8 p.o1) ∧ W.cell? ⟨g, 4, none⟩ = some (.int .i8 p.o2) ∧ W.cell? ⟨g, 5, none⟩ = some (.slice a.A2 p.steps.length a.c2) ∧ W.cell? ⟨g, 6, none⟩ = some (.slice a.A3 p.trs.length a.c3) ∧ W.cell? ⟨g, 7, none⟩ = some (.int .u8 p.first) ∧ W.cell? ⟨g, 8, none⟩ = some (.int .u8 p.slots) ∧ W.cell? ⟨g, 9, none⟩ = some (.int .u8 p.per) ∧ W.cell? ⟨g, 10, none⟩ = some (.int .u8 p.delay) ∧ W.cell? ⟨g, 11, none⟩ = some (.int .u8 p.chunk) ∧ W.cell? ⟨g, 12, none⟩ = some (.int .u8 p.loss) ∧ W.cell? ⟨g, 13, none⟩ = some (.int .u8 p.rep) :=
  ⟨(blk_cell h 0).trans rfl, (blk_cell h 1).trans rfl, (blk_cell h 2).trans rfl, (blk_cell h 3).trans rfl, (blk_cell h 4).trans rfl, (blk_cell h 5).trans rfl, (blk_cell h 6).trans rfl, (blk_cell h 7).trans rfl, (blk_cell h 8).trans rfl, (blk_cell h 9).trans rfl, (blk_cell h 10).trans rfl, (blk_cell h 11).trans rfl, (blk_cell h 12).trans rfl, (blk_cell h 13).trans rfl⟩
def fvT.T3 : Bool × List (List Nat × List Nat) := (true, [([], []), ([], []), ([1], [1]), ([0, 2], [0, 2]), ([], []), ([4], [4]), ([3, 5, 3], [3, 5]), ([0, 1, 2, 3, 4, 5, 6], []), ([7, 6, 6, 0, 1, 2, 3, 4, 5, 6], [6, 7])])
def fvT.B3 : List Nat := [0, 0, 2, 7, 0, 16, 63, 127, 255]
theorem fvT.tab3 : rtab .any (opsOf Try.f5 3) = fvT.T3 := by kernel_rfl
theorem fvT.bits3 : waitsOk fvT.T3.2 fvT.B3 = true := by kernel_rfl
def fvT.T10 : Bool × List (List Nat × List Nat) := (true, [([], []), ([0], [0]), ([], []), ([], []), ([3], [3]), ([2, 4], [2, 4]), ([1, 5], [1, 5]), ([6], [6]), ([7], [7]), ([8], [8]), ([9], [9]), ([10, 5, 0, 1, 2, 3, 4, 5, 6, 7, 8, 9, 10], [10])])
def fvT.B10 : List Nat := [0, 1, 0, 0, 8, 28, 63, 127, 255, 511, 1023, 2047]
theorem fvT.tab10 : rtab .any (opsOf Try.f5 10) = fvT.T10 := by kernel_rfl
theorem fvT.bits10 : waitsOk fvT.T10.2 fvT.B10 = true := by kernel_rfl
set_option maxHeartbeats 8000000 in
set_option maxRecDepth 100000 in
theorem faults_calls (p : Plan) (a : PlanAt) (x : S59) (w : World) (hR : PlanR w a p) (hok : PlanOk p) (hx : U8 x.f0 ∧ U8 x.f1 ∧ U8 x.f2 ∧ U8 x.f3 ∧ U8 x.f4 ∧ U8 x.f5) :
    Calls Try.prog 5 #[.agg (p.cells a), .agg (tcells x)] w fun e w' => e = .returned (.bool true) ∧ Below w.heap.size w w' := by
  obtain ⟨A1, c1, A2, c2, A3, c3⟩ := a
  have hR2 := hR.two
  have HRP := Aside0.mk hR2
  have hok2 := two_ok hok
  have hokx := plus_ok hok x hx
  have hn : p.trs.length ≤ 9223372036854775807 := hR.r3.2.1
  have hl : p.trs.length ≤ c3 := hR.l3
  have ht : ∀ h : Decidable ((2 : Int) < (p.trs.length : Int)), (@ite _ _ h (2 : Int) (p.trs.length : Int)).toNat = p.two.trs.length := fun h => by
    show _ = (p.trs.take 2).length
    rw [List.length_take]
    split <;> omega
  have ht2 : p.two.trs.length ≤ 2 := by
    show (p.trs.take 2).length ≤ 2
    rw [List.length_take]
    omega
  have hl2 : p.two.trs.length ≤ c3 := hR2.l3
  have HCF := Aside0.mk (fun W (hb : Below w.heap.size w W) => config_calls p.two ⟨A1, c1, A2, c2, A3, c3⟩ W (hR2.below hb) hok2)
  have HCG := Aside0.mk (fun (A6 : Option Addr) (c6 : Nat) W (hb : Below w.heap.size w W) (hr : Kd.C k59 W A6 (p.two.trs ++ [x]).length (p.two.trs ++ [x])) (hc : (p.two.trs ++ [x]).length ≤ c6) =>
    config_calls (p.plus x) ⟨A1, c1, A2, c2, A6, c6⟩ W ⟨Kd.C_below hR.r1 hb, hR.l1, Kd.C_below hR.r2 hb, hR.l2, hr, hc⟩ hokx)
  have HVC := Aside0.mk (cfg_valid p.two hok2)
  have hvd := cfg_valid (p.plus x) hokx
  have HSY := Aside0.mk (plan_sys p.two hok2)
  rw [plus_cfg] at HCG hvd
  have hTA := plan_traces p.two hok2 id 110 (Nat.le_refl _)
  have hTB := plan_traces (p.plus x) hokx id 110 (Nat.le_refl _)
  rw [plus_cfg] at hTB
  have HVD := Aside0.mk hvd
  have HTK : Aside0 (∀ W, Below w.heap.size w W → Kd.C k59 W A3 p.two.trs.length p.two.trs) := ⟨fun W hb => Kd.C_below hR2.r3 hb⟩
  have hf := hx.2.2.2.2.1
  have hf0 : 0 ≤ (trOf p.n x).f3 := by show 0 ≤ x.f4 % 30; omega
  have hf1 : (trOf p.n x).f3 ≤ 29 := by show x.f4 % 30 ≤ 29; omega
  have hsf : 0 ≤ (p.two.cfg chgs47).sfrom := by have := hok.first; show 0 ≤ p.first % 8; omega
  have hst : (p.two.cfg chgs47).sto ≤ 100 := by show p.first % 8 + p.slots % 4 ≤ 100; omega
  have hpr : (p.two.cfg chgs47).per ≤ 10 := by show p.per % 3 ≤ 10; omega
  have HFR := Aside0.mk (faults_rel (p.two.cfg chgs47) HSY.out (trOf p.n x) hf0 hf1 ((rd_T64 (p.two.cfg chgs47).sv (svIdx (p.two.cfg chgs47).sv (trOf p.n x).f0)).f5.length = 0) (fun h => List.eq_nil_of_length_eq_zero h) hsf hst hpr)
  have HTA := Aside0.mk hTA
  have HTB := Aside0.mk hTB
  have hn4 : (p.two.cfg chgs47).fl.length ≤ 3 := HSY.out.faults
  have hsl : (p.two.cfg chgs47).sv.length ≤ 4 := HSY.out.n4
  clear hR hR2 hok hok2 hokx hx hvd hTA hTB hf hf0 hf1 hsf hst hpr HSY
  generalize trOf p.n x = f at HCG HVD HTB HFR
  generalize p.two.cfg chgs47 = c at HCF HCG HVC HVD HTA HTB HFR hn4 hsl
  go_enter Try.func5, Try.ntmps5
  go_upto_region 2 with fail
  clear ht hn hl
  generalize (if (2 : Int) < (p.trs.length : Int) then (2 : Int) else (p.trs.length : Int)) = mn
  have hb0 : Below w.heap.size w ((w.alloc (.cells (p.two.cells ⟨A1, c1, A2, c2, A3, c3⟩) 41)).alloc (.cells (tcells x) 59)) := below_alloc (below_alloc (Below.refl _ _) _) _
  have hp0 : ((w.alloc (.cells (p.two.cells ⟨A1, c1, A2, c2, A3, c3⟩) 41)).alloc (.cells (tcells x) 59)).heap[w.heap.size]? = some (.cells (p.two.cells ⟨A1, c1, A2, c2, A3, c3⟩) 41 (0, 0)) := blk_alloc (blk_new w _) _
  have hx0 : ((w.alloc (.cells (p.two.cells ⟨A1, c1, A2, c2, A3, c3⟩) 41)).alloc (.cells (tcells x) 59)).heap[w.heap.size + 1]? = some (.cells (tcells x) 59 (0, 0)) := by
    simpa using blk_new (w.alloc (.cells (p.two.cells ⟨A1, c1, A2, c2, A3, c3⟩) 41)) (.cells (tcells x) 59)
  have hsz : ((w.alloc (.cells (p.two.cells ⟨A1, c1, A2, c2, A3, c3⟩) 41)).alloc (.cells (tcells x) 59)).heap.size = w.heap.size + 2 := by simp
  obtain ⟨q0, q1, q2, q3, q4, q5, q6, q7, q8, q9, q10, q11, q12, q13⟩ := plan14 hp0
  change Code.wp _ _ _ _ ((w.alloc (.cells (p.two.cells ⟨A1, c1, A2, c2, A3, c3⟩) 41)).alloc (.cells (tcells x) 59))
  generalize (w.alloc (.cells (p.two.cells ⟨A1, c1, A2, c2, A3, c3⟩) 41)).alloc (.cells (tcells x) 59) = w0 at hb0 hp0 hx0 hsz q0 q1 q2 q3 q4 q5 q6 q7 q8 q9 q10 q11 q12 q13 ⊢
  go_wp2_with fail
  refine (HCF.out _ hb0).mono ?_
  rintro e w1 ⟨⟨B1, d1, B2, d2, B3, d3, B4, d4⟩, rfl, hO1, hb1⟩
  clear q0 q1 q2 q3 q4 q5 q6 q7 q8 q9 q10 q11 q12 q13
  go_upto_region 3 with fail
  have HP := Aside0.mk (blk_alloc (blk_below hp0 hb1) (.cells (c.cells ⟨B1, d1, B2, d2, B3, d3, B4, d4⟩) 31))
  have HX := Aside0.mk (blk_alloc (blk_below hx0 hb1) (.cells (c.cells ⟨B1, d1, B2, d2, B3, d3, B4, d4⟩) 31))
  have HC := Aside0.mk (blk_new w1 (.cells (c.cells ⟨B1, d1, B2, d2, B3, d3, B4, d4⟩) 31))
  have HB := Aside0.mk (below_alloc (below_step hb0 hb1) (.cells (c.cells ⟨B1, d1, B2, d2, B3, d3, B4, d4⟩) 31))
  have hbn : Below w1.heap.size w1 (w1.alloc (.cells (c.cells ⟨B1, d1, B2, d2, B3, d3, B4, d4⟩) 31)) := below_alloc (Below.refl _ _) _
  rw [hsz] at hO1
  have HO := Aside0.mk (hO1.step (fun k _ hk => hbn.block k hk) hbn.size)
  have hgc : w.heap.size + 2 ≤ w1.heap.size := by have := hb1.size; omega
  clear hp0 hx0 hb0 hb1 hO1 hbn hsz HCF
  generalize hg : w1.heap.size = gc at HC hgc ⊢
  clear hg
  generalize w1.alloc (.cells (c.cells ⟨B1, d1, B2, d2, B3, d3, B4, d4⟩) 31) = v0 at HP HX HC HB HO ⊢
  replace HTK := Aside0.mk (fun W (hb : Below v0.heap.size v0 W) => HTK.out W (below_step HB.out hb))
  have p6 : v0.cell? ⟨w.heap.size, 6, none⟩ = some (.slice A3 p.two.trs.length c3) := (blk_cell HP.out 6).trans rfl
  have x0 : v0.cell? ⟨w.heap.size + 1, 0, none⟩ = some (.int .u8 x.f0) := (blk_cell HX.out 0).trans rfl
  have x1 : v0.cell? ⟨w.heap.size + 1, 1, none⟩ = some (.int .u8 x.f1) := (blk_cell HX.out 1).trans rfl
  have x2 : v0.cell? ⟨w.heap.size + 1, 2, none⟩ = some (.int .u8 x.f2) := (blk_cell HX.out 2).trans rfl
  have x3 : v0.cell? ⟨w.heap.size + 1, 3, none⟩ = some (.int .u8 x.f3) := (blk_cell HX.out 3).trans rfl
  have x4 : v0.cell? ⟨w.heap.size + 1, 4, none⟩ = some (.int .u8 x.f4) := (blk_cell HX.out 4).trans rfl
  have x5 : v0.cell? ⟨w.heap.size + 1, 5, none⟩ = some (.int .u8 x.f5) := (blk_cell HX.out 5).trans rfl
  refine start_ (n := 9) (S := fun w' => Below v0.heap.size v0 w') (ds := [8]) #[false, false, false, false, false, false, false, false, false] (by kernel_rfl) rfl rfl (Below.refl _ _).drew (fun hHeld => ?_)
  refine with_tabW fvT.tab3 fvT.bits3 (fun HT_ HW_ => ?_)
  generalize v0.drew = wd at hHeld ⊢
  refine pure_ (i := 1) (N := some 29) (v := ?_) (a' := ?_) #[false, true, false, false, false, false, false, false, false] rfl rfl (any_of HT_.out (by kernel_rfl)) (fun _ _ _ h => h) (Or.inl ⟨by rfl, ?_⟩) ?_ ?_
  rotate_left
  · intro w'
    go_simp
    with_reducible rfl
  rotate_left
  · simp only [Act.put, List.setIfInBounds_toArray, List.set_cons_zero, List.set_cons_succ, i64_w, i32_w]
    rfl
  refine take_ (i := 2) (N := some 30) (v := ?_) (a' := ?_) #[false, true, true, false, false, false, false, false, false] rfl rfl (take_ofW HT_.out HW_.out (by kernel_rfl)) (fun _ _ _ h => h) (Or.inl ⟨by rfl, ?_⟩) hHeld ?_ ?_
  rotate_left
  · intro w' hS
    replace p6 := (hS.cell (World.block_lt_of_cell? _ _ p6)).trans p6
    go_simp
    with_reducible rfl
  rotate_left
  · simp only [Act.put, List.setIfInBounds_toArray, List.set_cons_zero, List.set_cons_succ, i64_w, i32_w]
    rfl
  refine take_ (i := 4) (N := some 32) (v := ?_) (a' := ?_) #[false, true, true, false, true, false, false, false, false] rfl rfl (take_ofW HT_.out HW_.out (by kernel_rfl)) (fun _ _ _ h => h) (Or.inl ⟨by rfl, ?_⟩) hHeld ?_ ?_
  rotate_left
  · intro w' hS
    replace x0 := (hS.cell (World.block_lt_of_cell? _ _ x0)).trans x0
    replace x1 := (hS.cell (World.block_lt_of_cell? _ _ x1)).trans x1
    replace x2 := (hS.cell (World.block_lt_of_cell? _ _ x2)).trans x2
    replace x3 := (hS.cell (World.block_lt_of_cell? _ _ x3)).trans x3
    replace x4 := (hS.cell (World.block_lt_of_cell? _ _ x4)).trans x4
    replace x5 := (hS.cell (World.block_lt_of_cell? _ _ x5)).trans x5
    go_simp
    with_reducible rfl
  rotate_left
  · simp only [Act.put, List.setIfInBounds_toArray, List.set_cons_zero, List.set_cons_succ, i64_w, i32_w]
    rfl
  refine join_ (σ := Value × Value × Value × Value) 2 #[true, true, true, true, true, true, true, false, false] (fun s => [(28, s.1), (31, s.2.1), (33, s.2.2.1), (34, s.2.2.2)]) (fun s w' => Below v0.heap.size v0 w' ∧ Kd.R k59 59 w' v0.heap.size (fun _ => True) s.2.2.2 (p.two.trs ++ [x])) ?_ ?_
  rotate_left
  · intro hCont
    refine two_ (i := 0) (j := 5) (Ni := some 28) (Nj := some 33) #[true, true, true, false, true, false, false, false, false] #[false, true, true, false, true, true, false, false, false] rfl rfl rfl rfl (two_of HT_.out (by kernel_rfl)) (by decide) (by decide) (fun K hK => ?_) (fun K hK => ?_)
    · refine Kd.R_lit_step k59 (w0 := v0) v0.heap.size 59 (by rfl) (N := 28) rfl (xs := []) (inner := []) (ok := fun _ => True) (okp := fun _ => False) (by go_simp) (Reps.none _ _) (fun _ h => h.elim) trivial hHeld hHeld.size (by simp) ?_
      intro v28 W28 hr28 hb28 hg28 ho28
      clear ho28 hg28
      refine hK.out _ _ hb28 (fun hHeld => ?_)
      clear hb28
      clear hK K
      refine norm_ (a' := ?_) ?_ ?_
      rotate_left
      · show Act.put _ (some 28) _ = _
        simp only [Act.put, List.setIfInBounds_toArray, List.set_cons_zero, List.set_cons_succ, i64_w, i32_w]
        rfl
      refine two_ (i := 3) (j := 5) (Ni := some 31) (Nj := some 33) #[true, true, true, true, true, false, false, false, false] #[true, true, true, false, true, true, false, false, false] rfl rfl rfl rfl (two_of HT_.out (by kernel_rfl)) (by decide) (by decide) (fun K hK => ?_) (fun K hK => ?_)
      · refine Kd.R_append_rows_step k59 (Rr := k59.K _) (w0 := v0) v0.heap.size (by rfl) (.tmp 28) (.tmp 30) 39 59 _ 6 rfl Try.underlying39 info59 rfl (by decide) (by decide) v28 [] p.two.trs A3 p.two.trs.length c3 (fun _ => True) (fun _ => False) (by rfl) (by rfl) hr28 (HTK.out _ hHeld) (fun x cs h => k59_KM h) (fun _ h => h.elim) (fun _ _ => trivial) hHeld hHeld.size (by simp only [List.length_nil]; omega) ?_
        intro v31 W31 hr31 hb31 hg31 ho31
        rw [List.nil_append] at hr31
        clear ho31 hg31 hr28
        refine hK.out _ _ hb31 (fun hHeld => ?_)
        clear hb31
        clear hK K
        refine norm_ (a' := ?_) ?_ ?_
        rotate_left
        · show Act.put _ (some 31) _ = _
          simp only [Act.put, List.setIfInBounds_toArray, List.set_cons_zero, List.set_cons_succ, i64_w, i32_w]
          rfl
        refine one_ (i := 5) (N := some 33) #[true, true, true, true, true, true, false, false, false] rfl rfl (one_of HT_.out (by kernel_rfl)) (by decide) (fun K hK => ?_)
        refine Kd.R_lit_step k59 (w0 := v0) v0.heap.size 59 (by rfl) (N := 33) rfl (xs := [x]) (inner := [.int .u8 x.f0, .int .u8 x.f1, .int .u8 x.f2, .int .u8 x.f3, .int .u8 x.f4, .int .u8 x.f5]) (ok := fun _ => True) (okp := fun _ => False) (by go_simp) ((Reps.none _ _).snoc (k59_mkM _ _ _ x) rfl) (fun _ h => h.elim) trivial hHeld hHeld.size (by simp) ?_
        intro v33 W33 hr33 hb33 hg33 ho33
        replace hr33 := Kd.R_tight rfl hr33
        obtain ⟨A5, c5, e5, _, _⟩ := Kd.R_reads hr33
        subst e5
        have hne : ∀ k, some k = (Value.slice A5 1 c5).ownBlock → some k ≠ v31.ownBlock := fun k hk hk2 => own_apart (Kd.R_lt hr31) ho33 (hk2.symm.trans hk)
        replace hr31 := Kd.R_grown hr31 hg33 (fun _ _ h => by cases h)
        clear ho33 hg33
        refine hK.out _ _ hb33 (fun hHeld => ?_)
        clear hb33
        clear hK K
        refine norm_ (a' := ?_) ?_ ?_
        rotate_left
        · show Act.put _ (some 33) _ = _
          simp only [Act.put, List.setIfInBounds_toArray, List.set_cons_zero, List.set_cons_succ, i64_w, i32_w]
          rfl
        refine one_ (i := 6) (N := some 34) #[true, true, true, true, true, true, true, false, false] rfl rfl (one_of HT_.out (by kernel_rfl)) (by decide) (fun K hK => ?_)
        refine Kd.R_append_rows_step k59 (Rr := k59.K _) (w0 := v0) v0.heap.size (by rfl) (.tmp 31) (.tmp 33) 39 59 _ 6 rfl Try.underlying39 info59 rfl (by decide) (by decide) v31 p.two.trs [x] A5 1 c5 (fun _ => True) (fun _ => False) (by rfl) (by rfl) hr31 (Kd.R_reads' hr33).2.2 (fun x cs h => k59_KM h) (fun _ h => h.elim) (fun _ _ => trivial) hHeld hHeld.size (by omega) ?_
        intro v34 W34 hr34 hb34 hg34 ho34
        clear ho34 hg34 hr31 hr33 hne
        refine hK.out _ _ hb34 (fun hHeld => ?_)
        clear hb34
        clear hK K
        refine norm_ (a' := ?_) ?_ ?_
        rotate_left
        · show Act.put _ (some 34) _ = _
          simp only [Act.put, List.setIfInBounds_toArray, List.set_cons_zero, List.set_cons_succ, i64_w, i32_w]
          rfl
        exact norm_ (by simp only [putAll, Act.put, List.setIfInBounds_toArray, List.set_cons_zero, List.set_cons_succ]) (hCont (v28, v31, .slice A5 [x].length c5, v34) _ ⟨hHeld, hr34⟩)
      · refine Kd.R_lit_step k59 (w0 := v0) v0.heap.size 59 (by rfl) (N := 33) rfl (xs := [x]) (inner := [.int .u8 x.f0, .int .u8 x.f1, .int .u8 x.f2, .int .u8 x.f3, .int .u8 x.f4, .int .u8 x.f5]) (ok := fun _ => True) (okp := fun _ => False) (by go_simp) ((Reps.none _ _).snoc (k59_mkM _ _ _ x) rfl) (fun _ h => h.elim) trivial hHeld hHeld.size (by simp) ?_
        intro v33 W33 hr33 hb33 hg33 ho33
        replace hr33 := Kd.R_tight rfl hr33
        obtain ⟨A5, c5, e5, _, _⟩ := Kd.R_reads hr33
        subst e5
        have hne : ∀ k, some k = (Value.slice A5 1 c5).ownBlock → some k ≠ v28.ownBlock := fun k hk hk2 => own_apart (Kd.R_lt hr28) ho33 (hk2.symm.trans hk)
        replace hr28 := Kd.R_grown hr28 hg33 (fun _ _ h => by cases h)
        clear ho33 hg33
        refine hK.out _ _ hb33 (fun hHeld => ?_)
        clear hb33
        clear hK K
        refine norm_ (a' := ?_) ?_ ?_
        rotate_left
        · show Act.put _ (some 33) _ = _
          simp only [Act.put, List.setIfInBounds_toArray, List.set_cons_zero, List.set_cons_succ, i64_w, i32_w]
          rfl
        refine one_ (i := 3) (N := some 31) #[true, true, true, true, true, true, false, false, false] rfl rfl (one_of HT_.out (by kernel_rfl)) (by decide) (fun K hK => ?_)
        refine Kd.R_append_rows_step k59 (Rr := k59.K _) (w0 := v0) v0.heap.size (by rfl) (.tmp 28) (.tmp 30) 39 59 _ 6 rfl Try.underlying39 info59 rfl (by decide) (by decide) v28 [] p.two.trs A3 p.two.trs.length c3 (fun _ => True) (fun _ => False) (by rfl) (by rfl) hr28 (HTK.out _ hHeld) (fun x cs h => k59_KM h) (fun _ h => h.elim) (fun _ _ => trivial) hHeld hHeld.size (by simp only [List.length_nil]; omega) ?_
        intro v31 W31 hr31 hb31 hg31 ho31
        rw [List.nil_append] at hr31
        have hlt3 := Kd.R_lt hr33
        replace hr33 := Kd.R_grown hr33 hg31 (fun k hk => hne k hk)
        replace hne : ∀ k, some k = (Value.slice A5 1 c5).ownBlock → some k ≠ v31.ownBlock := fun k hk hk2 => own_apart2 hlt3 ho31 (hne k hk) hk hk2
        clear hlt3
        clear ho31 hg31 hr28
        refine hK.out _ _ hb31 (fun hHeld => ?_)
        clear hb31
        clear hK K
        refine norm_ (a' := ?_) ?_ ?_
        rotate_left
        · show Act.put _ (some 31) _ = _
          simp only [Act.put, List.setIfInBounds_toArray, List.set_cons_zero, List.set_cons_succ, i64_w, i32_w]
          rfl
        refine one_ (i := 6) (N := some 34) #[true, true, true, true, true, true, true, false, false] rfl rfl (one_of HT_.out (by kernel_rfl)) (by decide) (fun K hK => ?_)
        refine Kd.R_append_rows_step k59 (Rr := k59.K _) (w0 := v0) v0.heap.size (by rfl) (.tmp 31) (.tmp 33) 39 59 _ 6 rfl Try.underlying39 info59 rfl (by decide) (by decide) v31 p.two.trs [x] A5 1 c5 (fun _ => True) (fun _ => False) (by rfl) (by rfl) hr31 (Kd.R_reads' hr33).2.2 (fun x cs h => k59_KM h) (fun _ h => h.elim) (fun _ _ => trivial) hHeld hHeld.size (by omega) ?_
        intro v34 W34 hr34 hb34 hg34 ho34
        clear ho34 hg34 hr31 hr33 hne
        refine hK.out _ _ hb34 (fun hHeld => ?_)
        clear hb34
        clear hK K
        refine norm_ (a' := ?_) ?_ ?_
        rotate_left
        · show Act.put _ (some 34) _ = _
          simp only [Act.put, List.setIfInBounds_toArray, List.set_cons_zero, List.set_cons_succ, i64_w, i32_w]
          rfl
        exact norm_ (by simp only [putAll, Act.put, List.setIfInBounds_toArray, List.set_cons_zero, List.set_cons_succ]) (hCont (v28, v31, .slice A5 [x].length c5, v34) _ ⟨hHeld, hr34⟩)
    · refine Kd.R_lit_step k59 (w0 := v0) v0.heap.size 59 (by rfl) (N := 33) rfl (xs := [x]) (inner := [.int .u8 x.f0, .int .u8 x.f1, .int .u8 x.f2, .int .u8 x.f3, .int .u8 x.f4, .int .u8 x.f5]) (ok := fun _ => True) (okp := fun _ => False) (by go_simp) ((Reps.none _ _).snoc (k59_mkM _ _ _ x) rfl) (fun _ h => h.elim) trivial hHeld hHeld.size (by simp) ?_
      intro v33 W33 hr33 hb33 hg33 ho33
      replace hr33 := Kd.R_tight rfl hr33
      obtain ⟨A5, c5, e5, _, _⟩ := Kd.R_reads hr33
      subst e5
      clear ho33 hg33
      refine hK.out _ _ hb33 (fun hHeld => ?_)
      clear hb33
      clear hK K
      refine norm_ (a' := ?_) ?_ ?_
      rotate_left
      · show Act.put _ (some 33) _ = _
        simp only [Act.put, List.setIfInBounds_toArray, List.set_cons_zero, List.set_cons_succ, i64_w, i32_w]
        rfl
      refine one_ (i := 0) (N := some 28) #[true, true, true, false, true, true, false, false, false] rfl rfl (one_of HT_.out (by kernel_rfl)) (by decide) (fun K hK => ?_)
      refine Kd.R_lit_step k59 (w0 := v0) v0.heap.size 59 (by rfl) (N := 28) rfl (xs := []) (inner := []) (ok := fun _ => True) (okp := fun _ => False) (by go_simp) (Reps.none _ _) (fun _ h => h.elim) trivial hHeld hHeld.size (by simp) ?_
      intro v28 W28 hr28 hb28 hg28 ho28
      have hne : ∀ k, some k = (Value.slice A5 1 c5).ownBlock → some k ≠ v28.ownBlock := fun k hk hk2 => own_apart (Kd.R_lt hr33) ho28 (hk.symm.trans hk2)
      replace hr33 := Kd.R_grown hr33 hg28 (fun _ _ h => by cases h)
      clear ho28 hg28
      refine hK.out _ _ hb28 (fun hHeld => ?_)
      clear hb28
      clear hK K
      refine norm_ (a' := ?_) ?_ ?_
      rotate_left
      · show Act.put _ (some 28) _ = _
        simp only [Act.put, List.setIfInBounds_toArray, List.set_cons_zero, List.set_cons_succ, i64_w, i32_w]
        rfl
      refine one_ (i := 3) (N := some 31) #[true, true, true, true, true, true, false, false, false] rfl rfl (one_of HT_.out (by kernel_rfl)) (by decide) (fun K hK => ?_)
      refine Kd.R_append_rows_step k59 (Rr := k59.K _) (w0 := v0) v0.heap.size (by rfl) (.tmp 28) (.tmp 30) 39 59 _ 6 rfl Try.underlying39 info59 rfl (by decide) (by decide) v28 [] p.two.trs A3 p.two.trs.length c3 (fun _ => True) (fun _ => False) (by rfl) (by rfl) hr28 (HTK.out _ hHeld) (fun x cs h => k59_KM h) (fun _ h => h.elim) (fun _ _ => trivial) hHeld hHeld.size (by simp only [List.length_nil]; omega) ?_
      intro v31 W31 hr31 hb31 hg31 ho31
      rw [List.nil_append] at hr31
      have hlt3 := Kd.R_lt hr33
      replace hr33 := Kd.R_grown hr33 hg31 (fun k hk => hne k hk)
      replace hne : ∀ k, some k = (Value.slice A5 1 c5).ownBlock → some k ≠ v31.ownBlock := fun k hk hk2 => own_apart2 hlt3 ho31 (hne k hk) hk hk2
      clear hlt3
      clear ho31 hg31 hr28
      refine hK.out _ _ hb31 (fun hHeld => ?_)
      clear hb31
      clear hK K
      refine norm_ (a' := ?_) ?_ ?_
      rotate_left
      · show Act.put _ (some 31) _ = _
        simp only [Act.put, List.setIfInBounds_toArray, List.set_cons_zero, List.set_cons_succ, i64_w, i32_w]
        rfl
      refine one_ (i := 6) (N := some 34) #[true, true, true, true, true, true, true, false, false] rfl rfl (one_of HT_.out (by kernel_rfl)) (by decide) (fun K hK => ?_)
      refine Kd.R_append_rows_step k59 (Rr := k59.K _) (w0 := v0) v0.heap.size (by rfl) (.tmp 31) (.tmp 33) 39 59 _ 6 rfl Try.underlying39 info59 rfl (by decide) (by decide) v31 p.two.trs [x] A5 1 c5 (fun _ => True) (fun _ => False) (by rfl) (by rfl) hr31 (Kd.R_reads' hr33).2.2 (fun x cs h => k59_KM h) (fun _ h => h.elim) (fun _ _ => trivial) hHeld hHeld.size (by omega) ?_
      intro v34 W34 hr34 hb34 hg34 ho34
      clear ho34 hg34 hr31 hr33 hne
      refine hK.out _ _ hb34 (fun hHeld => ?_)
      clear hb34
      clear hK K
      refine norm_ (a' := ?_) ?_ ?_
      rotate_left
      · show Act.put _ (some 34) _ = _
        simp only [Act.put, List.setIfInBounds_toArray, List.set_cons_zero, List.set_cons_succ, i64_w, i32_w]
        rfl
      exact norm_ (by simp only [putAll, Act.put, List.setIfInBounds_toArray, List.set_cons_zero, List.set_cons_succ]) (hCont (v28, v31, .slice A5 [x].length c5, v34) _ ⟨hHeld, hr34⟩)
  rintro ⟨v28, v31, v33, v34⟩ v3 ⟨hHeld, hr34⟩
  dsimp only at hr34 ⊢
  obtain ⟨A6, c6, e6⟩ := Kd.R_slice hr34
  subst e6
  have hp3 := blk_below HP.out hHeld
  have f6 : v3.cell? ⟨w.heap.size, 6, none⟩ = some (.slice A3 p.two.trs.length c3) := (blk_cell hp3 6).trans rfl
  have z6 := blk_frozen hp3 6
  clear hp3
  refine norm_ (a' := ?_) ?_ ?_
  rotate_left
  · simp only [putAll, Act.put, List.setIfInBounds_toArray, List.set_cons_zero, List.set_cons_succ]
    rfl
  refine pure_ (i := 7) (N := some 35) (v := ?_) (a' := ?_) #[true, true, true, true, true, true, true, true, false] rfl rfl (any_of HT_.out (by kernel_rfl)) (fun _ _ _ h => h) (Or.inl ⟨by rfl, ?_⟩) ?_ ?_
  rotate_left
  · intro w'
    go_simp
    with_reducible rfl
  rotate_left
  · simp only [Act.put, List.setIfInBounds_toArray, List.set_cons_zero, List.set_cons_succ, i64_w, i32_w]
    rfl
  refine last_ (i := 8) (N := none) #[true, true, true, true, true, true, true, true, true] rfl rfl (one_of HT_.out (by kernel_rfl)) (by decide) (fun K hK => ?_)
  rw [if_pos (by rfl)]
  go_simp
  refine hK.out _ _ ?_
  clear hK K
  refine done_ (done_of HT_.out (by kernel_rfl)) ?_
  have elen : p.two.trs.length + 1 = (p.plus x).trs.length := by show _ = (p.two.trs ++ [x]).length; simp
  rw [elen]
  have hgl : w.heap.size < v0.heap.size := blk_lt HP.out
  have hsz3 : ∀ u, (v3.setCell ⟨w.heap.size, 6, none⟩ u).heap.size = v3.heap.size := fun u => by simp [World.setCell]
  have hp4 : (v3.setCell ⟨w.heap.size, 6, none⟩ (.slice A6 (p.plus x).trs.length c6)).heap[w.heap.size]? = some (.cells ((p.plus x).cells ⟨A1, c1, A2, c2, A6, c6⟩) 41 (0, 0)) := blk_put (blk_below HP.out hHeld) 6 _ rfl
  have hrow := (Kd.R_reads' (Kd.R_far (Kd.R_bound hr34) (p := ⟨w.heap.size, 6, none⟩) (fun k hk => by have := hk.2.1; show k ≠ w.heap.size; omega) (.slice A6 (p.plus x).trs.length c6))).2.2
  have hcap := (Kd.R_reads' hr34).2.1
  have HB4 := Aside0.mk (below_set (j := 6) (v := .slice A6 (p.plus x).trs.length c6) (below_step HB.out hHeld) (Nat.le_refl _))
  have HO4 := Aside0.mk (HO.out.step (w1 := v3.setCell ⟨w.heap.size, 6, none⟩ (.slice A6 (p.plus x).trs.length c6)) (fun k h1 h2 => (Below.heap_setCell v3 ⟨w.heap.size, 6, none⟩ _ k (by show k ≠ w.heap.size; omega)).trans (hHeld.block k h2)) (by rw [hsz3]; exact hHeld.size))
  have HC4 := Aside0.mk ((Below.heap_setCell v3 ⟨w.heap.size, 6, none⟩ (.slice A6 (p.plus x).trs.length c6) gc (by show gc ≠ w.heap.size; omega)).trans (blk_below HC.out hHeld))
  clear hHeld hr34 f6 z6 HP HX HB HO HC HTK elen hgl hsz3 p6 x0 x1 x2 x3 x4 x5
  generalize v3.setCell ⟨w.heap.size, 6, none⟩ (.slice A6 (p.plus x).trs.length c6) = v4 at hp4 hrow HB4 HO4 HC4 ⊢
  obtain ⟨q0, q1, q2, q3, q4, q5, q6, q7, q8, q9, q10, q11, q12, q13⟩ := plan14 hp4
  have HCH := Aside0.mk (HCG.out A6 c6 v4 HB4.out hrow hcap)
  clear hp4 HCG hrow hcap
  go_wp2_with fail
  refine HCH.out.mono ?_
  rintro e w2 ⟨⟨D1, e1, D2, e2, D3, e3, D4, e4⟩, rfl, hO2, hb2⟩
  clear q0 q1 q2 q3 q4 q5 q6 q7 q8 q9 q10 q11 q12 q13 HCH
  have hlen := HFR.out.1
  have hfl : (c.more f).fl.length = c.fl.length + 1 := by show (c.fl ++ [f]).length = _; simp
  have hlast : rd_T61 (c.more f).fl (((c.more f).fl.length : Int) - 1) = f := by
    rw [hfl]
    show rd_T61 (c.fl ++ [f]) _ = f
    unfold rd_T61
    rw [show (((c.fl.length + 1 : Nat) : Int) - 1).toNat = c.fl.length from by omega]
    simp
  have hsvd : (c.more f).sv = c.sv := rfl
  have hj := HVD.out.fsvc c.fl.length (by omega)
  have hj0 : 0 ≤ svIdx c.sv f.f0 := by
    rw [more_last] at hj
    exact hj
  have hj1 : svIdx c.sv f.f0 < c.sv.length := by
    rcases idxBy_range (fun x : S64 => x.f0.toList == f.f0.toList) c.sv with h | h
    · have : svIdx c.sv f.f0 = -1 := h
      omega
    · exact h.2
  have HTR := Aside0.mk HFR.out.2
  have HLAST := Aside0.mk hlast
  have hd1 : 1 ≤ (c.more f).fl.length := by omega
  have hd4 : (c.more f).fl.length ≤ 4 := by omega
  clear hj hlast hfl hsvd hn4 HFR
  generalize c.more f = d at *
  generalize hta : tracesI c id = ta at *
  generalize htb : tracesI d id = tb at *
  clear hta htb
  go_upto_region 5 with fail
  have HD := Aside0.mk (blk_new w2 (.cells (d.cells ⟨D1, e1, D2, e2, D3, e3, D4, e4⟩) 31))
  have HC5 := Aside0.mk (blk_alloc (blk_below HC4.out hb2) (.cells (d.cells ⟨D1, e1, D2, e2, D3, e3, D4, e4⟩) 31))
  have hbn : Below w2.heap.size w2 (w2.alloc (.cells (d.cells ⟨D1, e1, D2, e2, D3, e3, D4, e4⟩) 31)) := below_alloc (Below.refl _ _) _
  have HB5 := Aside0.mk (below_step (below_step HB4.out hb2) hbn)
  have HRC := Aside0.mk (HO4.out.now.below (below_step hb2 hbn))
  have HRD := Aside0.mk (hO2.now.below hbn)
  clear HB4 HO4 HC4 hb2 hO2 hbn
  generalize hgd : w2.heap.size = gd at HD ⊢
  clear hgd
  generalize w2.alloc (.cells (d.cells ⟨D1, e1, D2, e2, D3, e3, D4, e4⟩) 31) = v4 at HD HC5 HB5 HRC HRD ⊢
  obtain ⟨q0, q1, q2, q3, q4, q5, q6, q7, q8, q9, q10, q11⟩ := cfg12 HC5.out
  go_wp2_with fail
  refine (Truth_ok 110 0 c ⟨B1, d1, B2, d2, B3, d3, B4, d4⟩ _ ta HRC.out (ckAll_ok HVC.out 0) HTA.out).mono ?_
  rintro e w3 ⟨v, rfl, ht, hb3⟩
  obtain ⟨AA, cA, rfl, hcA, hCA⟩ := ht.reads
  rw [List.length_map] at hcA hCA
  rw [List.length_map]
  have HC6 := Aside0.mk (blk_below HC5.out hb3)
  have HD6 := Aside0.mk (blk_below HD.out hb3)
  have HB6 := Aside0.mk (below_step HB5.out hb3)
  have HRC6 := Aside0.mk (HRC.out.below hb3)
  have HRD6 := Aside0.mk (HRD.out.below hb3)
  have HCA := Aside0.mk hCA
  clear ht hCA hb3 HC5 HD HB5 HRC HRD HTA q0 q1 q2 q3 q4 q5 q6 q7 q8 q9 q10 q11
  obtain ⟨q0, q1, q2, q3, q4, q5, q6, q7, q8, q9, q10, q11⟩ := cfg12 HD6.out
  go_wp2_with fail
  refine (Truth_ok 110 0 d ⟨D1, e1, D2, e2, D3, e3, D4, e4⟩ _ tb HRD6.out (ckAll_ok HVD.out 0) HTB.out).mono ?_
  rintro e w4 ⟨v, rfl, ht, hb4⟩
  obtain ⟨AB, cB, rfl, hcB, hCB⟩ := ht.reads
  rw [List.length_map, hlen] at hcB hCB
  rw [List.length_map, hlen]
  have HC7 := Aside0.mk (blk_below HC6.out hb4)
  have HD7 := Aside0.mk (blk_below HD6.out hb4)
  have HB7 := Aside0.mk (below_step HB6.out hb4)
  have HRC7 := Aside0.mk (HRC6.out.below hb4)
  have HRD7 := Aside0.mk (HRD6.out.below hb4)
  have HCA7 := Aside0.mk (Kd.C_below HCA.out hb4)
  have HCB := Aside0.mk hCB
  clear ht hCB hb4 HC6 HD6 HB6 HRC6 HRD6 HCA HTB q0 q1 q2 q3 q4 q5 q6 q7 q8 q9 q10 q11
  go_wp2_with fail
  refine (known_calls _).mono ?_
  rintro e w5 ⟨rfl, hb5⟩
  have HC8 := Aside0.mk (blk_below HC7.out hb5)
  have HD8 := Aside0.mk (blk_below HD7.out hb5)
  have HB8 := Aside0.mk (below_step HB7.out hb5)
  have HRC8 := Aside0.mk (HRC7.out.below hb5)
  have HRD8 := Aside0.mk (HRD7.out.r4)
  have HRF := Aside0.mk (Kd.C_below HRD7.out.r4 hb5)
  have HCA8 := Aside0.mk (Kd.C_below HCA7.out hb5)
  have HCB8 := Aside0.mk (Kd.C_below HCB.out hb5)
  have hnA : ta.length ≤ 9223372036854775807 := HCA7.out.2.1
  have y4 : w5.cell? ⟨gd, 4, none⟩ = some (.slice D4 d.fl.length e4) := (blk_cell HD8.out 4).trans rfl
  clear hb5 HC7 HD7 HB7 HRC7 HRD7 HRD8 HCA7 HCB
  have k1 : ((d.fl.length : Int) == 0) = false := by simp; intro h; simp [h] at hd1
  go_upto_region 9 with fail
  clear HT_ HW_
  have k2 : wrap64 ((d.fl.length : Int) - 1) = (d.fl.length : Int) - 1 := by unfold wrap64; omega
  have k3 : IntKind.i64.wrap ((d.fl.length : Int) - 1) = (d.fl.length : Int) - 1 := IntWalk.i64_in _ (by omega)
  have k4 : (0 : Int) ≤ (d.fl.length : Int) - 1 := by omega
  have k5 : (d.fl.length : Int) - 1 < (d.fl.length : Int) := by omega
  obtain ⟨ad4, e, t0, t1, t2, t3, t4, t5⟩ := at_T61 HRF.out ((d.fl.length : Int) - 1) k4 k5
  subst e
  rw [HLAST.out] at t0 t1 t2 t3 t4 t5
  clear HRF HLAST
  simp only [show ((d.fl.length : Int) - 1).toNat = d.fl.length - 1 from by omega] at t0 t1 t2 t3 t4 t5
  go_upto_region 10 with fail
  have HFB := Aside0.mk (blk_new w5 (.cells #[.string f.f0, .string f.f1, .int .i64 f.f2.f0, .int .i64 f.f2.f1, .int .i64 f.f3, .int .i64 f.f4] 61))
  have hbn : Below w5.heap.size w5 (w5.alloc (.cells #[.string f.f0, .string f.f1, .int .i64 f.f2.f0, .int .i64 f.f2.f1, .int .i64 f.f3, .int .i64 f.f4] 61)) := below_alloc (Below.refl _ _) _
  have HC9 := Aside0.mk (blk_below HC8.out hbn)
  have HB9 := Aside0.mk (below_step HB8.out hbn)
  have HRC9 := Aside0.mk (HRC8.out.below hbn)
  have HCA9 := Aside0.mk (Kd.C_below HCA8.out hbn)
  have HCB9 := Aside0.mk (Kd.C_below HCB8.out hbn)
  clear t0 t1 t2 t3 t4 t5 y4 hbn HC8 HD8 HB8 HRC8 HCA8 HCB8 k1 k2 k3 k4 k5 hd1 hd4
  generalize hgf : w5.heap.size = gf at HFB ⊢
  clear hgf
  generalize w5.alloc (.cells #[.string f.f0, .string f.f1, .int .i64 f.f2.f0, .int .i64 f.f2.f1, .int .i64 f.f3, .int .i64 f.f4] 61) = v5 at HFB HC9 HB9 HRC9 HCA9 HCB9 ⊢
  obtain ⟨ad1, A5, c5, e, -, -, -, -, -, t5, -⟩ := at_T64 HRC9.out.r1 (svIdx c.sv f.f0) hj0 hj1
  dsimp only at e
  subst e
  obtain ⟨q0, q1, q2, q3, q4, q5, q6, q7, q8, q9, q10, q11⟩ := cfg12 HC9.out
  have y0 : v5.cell? ⟨gf, 0, none⟩ = some (.string f.f0) := (blk_cell HFB.out 0).trans rfl
  have HRC := Aside0.mk (fun W (hb : Below v5.heap.size v5 W) => HRC9.out.below hb)
  clear HRC9
  generalize hlf : (rd_T64 c.sv (svIdx c.sv f.f0)).f5.length = lf at HTR t5
  clear hlf
  refine start_ (n := 12) (S := fun w' => Below v5.heap.size v5 w') (ds := []) #[false, false, false, false, false, false, false, false, false, false, false, false] (by kernel_rfl) rfl rfl (Below.refl _ _).drew (fun hHeld => ?_)
  refine with_tabW fvT.tab10 fvT.bits10 (fun HT_ HW_ => ?_)
  generalize v5.drew = wd at hHeld ⊢
  refine pure_ (i := 0) (N := some 79) (v := ?_) (a' := ?_) #[true, false, false, false, false, false, false, false, false, false, false, false] rfl rfl (any_of HT_.out (by kernel_rfl)) (fun _ _ _ h => h) (Or.inl ⟨by rfl, ?_⟩) ?_ ?_
  rotate_left
  · intro w'
    go_simp
    with_reducible rfl
  rotate_left
  · simp only [Act.put, List.setIfInBounds_toArray, List.set_cons_zero, List.set_cons_succ, i64_w, i32_w]
    rfl
  refine take_ (i := 1) (N := some 80) (v := ?_) (a' := ?_) #[true, true, false, false, false, false, false, false, false, false, false, false] rfl rfl (take_ofW HT_.out HW_.out (by kernel_rfl)) (fun _ _ _ h => h) (Or.inl ⟨by rfl, ?_⟩) hHeld ?_ ?_
  rotate_left
  · intro w' hS
    replace q1 := (hS.cell (World.block_lt_of_cell? _ _ q1)).trans q1
    go_simp
    with_reducible rfl
  rotate_left
  · simp only [Act.put, List.setIfInBounds_toArray, List.set_cons_zero, List.set_cons_succ, i64_w, i32_w]
    rfl
  refine take_ (i := 2) (N := some 81) (v := ?_) (a' := ?_) #[true, true, true, false, false, false, false, false, false, false, false, false] rfl rfl (take_ofW HT_.out HW_.out (by kernel_rfl)) (fun _ _ _ h => h) (Or.inl ⟨by rfl, ?_⟩) hHeld ?_ ?_
  rotate_left
  · intro w' hS
    replace q0 := (hS.cell (World.block_lt_of_cell? _ _ q0)).trans q0
    replace q1 := (hS.cell (World.block_lt_of_cell? _ _ q1)).trans q1
    replace q2 := (hS.cell (World.block_lt_of_cell? _ _ q2)).trans q2
    replace q3 := (hS.cell (World.block_lt_of_cell? _ _ q3)).trans q3
    replace q4 := (hS.cell (World.block_lt_of_cell? _ _ q4)).trans q4
    replace q5 := (hS.cell (World.block_lt_of_cell? _ _ q5)).trans q5
    replace q6 := (hS.cell (World.block_lt_of_cell? _ _ q6)).trans q6
    replace q7 := (hS.cell (World.block_lt_of_cell? _ _ q7)).trans q7
    replace q8 := (hS.cell (World.block_lt_of_cell? _ _ q8)).trans q8
    replace q9 := (hS.cell (World.block_lt_of_cell? _ _ q9)).trans q9
    replace q10 := (hS.cell (World.block_lt_of_cell? _ _ q10)).trans q10
    replace q11 := (hS.cell (World.block_lt_of_cell? _ _ q11)).trans q11
    go_simp
    with_reducible rfl
  rotate_left
  · simp only [Act.put, List.setIfInBounds_toArray, List.set_cons_zero, List.set_cons_succ, i64_w, i32_w]
    rfl
  refine pure_ (i := 3) (N := some 82) (v := ?_) (a' := ?_) #[true, true, true, true, false, false, false, false, false, false, false, false] rfl rfl (any_of HT_.out (by kernel_rfl)) (fun _ _ _ h => h) (Or.inl ⟨by rfl, ?_⟩) ?_ ?_
  rotate_left
  · intro w'
    go_simp
    with_reducible rfl
  rotate_left
  · simp only [Act.put, List.setIfInBounds_toArray, List.set_cons_zero, List.set_cons_succ, i64_w, i32_w]
    rfl
  refine take_ (i := 4) (N := some 83) (v := ?_) (a' := ?_) #[true, true, true, true, true, false, false, false, false, false, false, false] rfl rfl (take_ofW HT_.out HW_.out (by kernel_rfl)) (fun _ _ _ h => h) (Or.inl ⟨by rfl, ?_⟩) hHeld ?_ ?_
  rotate_left
  · intro w' hS
    replace y0 := (hS.cell (World.block_lt_of_cell? _ _ y0)).trans y0
    go_simp
    with_reducible rfl
  rotate_left
  · simp only [Act.put, List.setIfInBounds_toArray, List.set_cons_zero, List.set_cons_succ, i64_w, i32_w]
    rfl
  refine one_ (i := 5) (N := some 84) #[true, true, true, true, true, true, false, false, false, false, false, false] rfl rfl (one_of HT_.out (by kernel_rfl)) (by decide) (fun K hK => ?_)
  refine goes_ Try.func17 (by kernel_rfl) rfl #[c.val ⟨(some ad1), d1, B2, d2, B3, d3, B4, d4⟩, .string f.f0] (by rfl) rfl rfl (by (try simp only [List.map_toArray, List.map_cons, List.map_nil]); first | done | rfl) ?_
  with_reducible refine (mindex_calls c ⟨(some ad1), d1, B2, d2, B3, d3, B4, d4⟩ f.f0 _ (HRC.out _ hHeld)).mono ?_
  rintro e w17 ⟨rfl, hb⟩
  refine ⟨_, rfl, ?_⟩
  replace hHeld := below_step hHeld hb
  clear hb
  refine hK.out _ _ hHeld (fun hHeld => ?_)
  clear hK K
  refine norm_ (a' := ?_) ?_ ?_
  rotate_left
  · show Act.put _ (some 84) _ = _
    simp only [Act.put, List.setIfInBounds_toArray, List.set_cons_zero, List.set_cons_succ, i64_w, i32_w]
    rfl
  refine pure_ (i := 6) (N := some 85) (v := ?_) (a' := ?_) #[true, true, true, true, true, true, true, false, false, false, false, false] rfl rfl (any_of HT_.out (by kernel_rfl)) (fun _ _ _ h => h) (Or.inl ⟨by rfl, ?_⟩) ?_ ?_
  rotate_left
  · intro w'
    go_simp
    with_reducible rfl
  rotate_left
  · simp only [Act.put, List.setIfInBounds_toArray, List.set_cons_zero, List.set_cons_succ, i64_w, i32_w]
    rfl
  refine pure_ (i := 7) (N := some 86) (v := ?_) (a' := ?_) #[true, true, true, true, true, true, true, true, false, false, false, false] rfl rfl (any_of HT_.out (by kernel_rfl)) (fun _ _ _ h => h) (Or.inl ⟨by rfl, ?_⟩) ?_ ?_
  rotate_left
  · intro w'
    go_simp
    with_reducible rfl
  rotate_left
  · simp only [Act.put, List.setIfInBounds_toArray, List.set_cons_zero, List.set_cons_succ, i64_w, i32_w]
    rfl
  refine take_ (i := 8) (N := some 87) (v := ?_) (a' := ?_) #[true, true, true, true, true, true, true, true, true, false, false, false] rfl rfl (take_ofW HT_.out HW_.out (by kernel_rfl)) (fun _ _ _ h => h) (Or.inl ⟨by rfl, ?_⟩) hHeld ?_ ?_
  rotate_left
  · intro w' hS
    replace t5 := (hS.cell (World.block_lt_of_cell? _ _ t5)).trans t5
    go_simp
    with_reducible rfl
  rotate_left
  · simp only [Act.put, List.setIfInBounds_toArray, List.set_cons_zero, List.set_cons_succ, i64_w, i32_w]
    rfl
  refine pure_ (i := 9) (N := some 88) (v := ?_) (a' := ?_) #[true, true, true, true, true, true, true, true, true, true, false, false] rfl rfl (any_of HT_.out (by kernel_rfl)) (fun _ _ _ h => h) (Or.inl ⟨by rfl, ?_⟩) ?_ ?_
  rotate_left
  · intro w'
    go_simp
    with_reducible rfl
  rotate_left
  · simp only [Act.put, List.setIfInBounds_toArray, List.set_cons_zero, List.set_cons_succ, i64_w, i32_w]
    rfl
  refine pure_ (i := 10) (N := some 89) (v := ?_) (a' := ?_) #[true, true, true, true, true, true, true, true, true, true, true, false] rfl rfl (any_of HT_.out (by kernel_rfl)) (fun _ _ _ h => h) (Or.inl ⟨by rfl, ?_⟩) ?_ ?_
  rotate_left
  · intro w'
    go_simp
    with_reducible rfl
  rotate_left
  · simp only [Act.put, List.setIfInBounds_toArray, List.set_cons_zero, List.set_cons_succ, i64_w, i32_w]
    rfl
  refine pure_ (i := 11) (N := some 12) (v := ?_) (a' := ?_) #[true, true, true, true, true, true, true, true, true, true, true, true] rfl rfl (any_of HT_.out (by kernel_rfl)) (fun _ _ _ h => h) (Or.inl ⟨by rfl, ?_⟩) ?_ ?_
  rotate_left
  · intro w'
    go_simp
    with_reducible rfl
  rotate_left
  · simp only [Act.put, List.setIfInBounds_toArray, List.set_cons_zero, List.set_cons_succ, i64_w, i32_w]
    rfl
  refine done_ (done_of HT_.out (by kernel_rfl)) ?_
  have HFB6 := Aside0.mk (blk_below HFB.out hHeld)
  have HB10 := Aside0.mk (below_step HB9.out hHeld)
  have HCA10 := Aside0.mk (Kd.C_below HCA9.out hHeld)
  have HCB10 := Aside0.mk (Kd.C_below HCB9.out hHeld)
  clear hHeld HFB HB9 HCA9 HCB9 HC9 y0 t5 q0 q1 q2 q3 q4 q5 q6 q7 q8 q9 q10 q11 HRC HT_ HW_ hj0 hj1
  obtain ⟨lb, hlb⟩ : ∃ lb : Bool, lb = ((lf : Int) == 0) := ⟨_, rfl⟩
  rw [← hlb]
  have HLB : Aside0 (lb = true → lf = 0) := ⟨fun h => by rw [hlb] at h; simpa using h⟩
  clear hlb
  clear HRP HVC HVD ht2 hl2 hsl hgc
  rename_i hK
  exact hK _ _ (faults_tail w _ f gf lf lb ta tb AA AB cA cB hcA hcB hlen HTR HFB6 HB10 HCA10 HCB10 HLB)
end Go.Proofs.Ytdadnapfecmmdaa.P
namespace Go.Proofs.Ytdadnapfecmmdaa.P
set_option linter.unusedVariables false
set_option linter.unusedSimpArgs false
open Go.RowKit Go.Proofs.YtdadnapfecmmdaaW.PrintWords Go.Proofs.YtdadnapfecmmdaaW.PrintLast Go.Proofs.YtdadnapfecmmdaaW.PrintMore
theorem u8list (cs : List Value) (h : ∀ i (hi : i < cs.length), ∃ n, cs[i] = .int .u8 n ∧ U8 n) : ∃ ns : List Int, cs = ns.map (Value.int .u8) ∧ ∀ n ∈ ns, U8 n := by
  induction cs with
  | nil => exact ⟨[], rfl, by simp⟩
  | cons c r ih =>
    obtain ⟨n, e, hn⟩ := h 0 (by simp)
    obtain ⟨ns, e2, h2⟩ := ih (fun i hi => by
      have := h (i + 1) (by simp; omega)
      simpa using this)
    refine ⟨n :: ns, ?_, ?_⟩
    · simp only [List.getElem_cons_zero] at e
      rw [e, e2]; rfl
    · intro m hm
      rcases List.mem_cons.mp hm with rfl | hm
      · exact hn
      · exact h2 m hm
section
variable {H : Type} {enc : TypeId × Value → H} {w : World} {base : Nat} {sp : Nat → Bool} {held : Bool}
theorem u8struct {e : TypeId} {fs : Array Field} {fuel : Nat} {cs : List Value} {x : DataW H × List MemPlace} (ht : Try.prog.underlying e = some (.struct fs)) (hc : Try.prog.cellsOf e = fs.size)
    (hone : ∀ i (h : i < fs.size), fs[i].type = 5 ∧ fs[i].offset = i) (h : DataW.trod enc Try.prog w base sp held fuel e cs = some x) : ∃ ns : List Int, cs = ns.map (Value.int .u8) ∧ ns.length = fs.size ∧ ∀ n ∈ ns, U8 n := by
  obtain ⟨xs, n, _, _, hl, hxl, hf⟩ := DataW.trod_struct ht h
  rw [hc] at hl
  obtain ⟨ns, e1, e2⟩ := u8list cs (fun i hi => by
    obtain ⟨q1, q2⟩ := hone i (by omega)
    have g := hf i fs[i] (by simp [show i < fs.size by omega])
    rw [q1, q2, List.getElem?_eq_getElem (by omega)] at g
    obtain ⟨m, e, _, hw⟩ := DataW.trod_int Try.underlying5 g
    have c5 : Try.prog.cellsOf 5 = 1 := by kernel_rfl
    rw [c5, List.drop_eq_getElem_cons (by omega)] at e
    simp only [List.take_succ_cons, List.take_zero, List.cons.injEq, and_true] at e
    exact ⟨m, e, bounds_u8 hw⟩)
  exact ⟨ns, e1, by rw [e1, List.length_map] at hl; exact hl, e2⟩
theorem u8slice {α : Type} (d : Kd α) (mk : List Int → α) {t e : TypeId} {fs : Array Field} {fuel : Nat} {cs : List Value} {x : DataW H × List MemPlace} (hs : Try.prog.underlying t = some (.slice e)) (ht : Try.prog.underlying e = some (.struct fs)) (hc : Try.prog.cellsOf e = fs.size)
    (hsz : d.sz = fs.size) (hone : ∀ i (h : i < fs.size), fs[i].type = 5 ∧ fs[i].offset = i) (hmk : ∀ (W : World) ns, ns.length = fs.size → d.K W (mk ns) (ns.map (Value.int .u8)))
    (h : DataW.trod enc Try.prog w base sp held fuel t cs = some x) :
    ∃ A c, ∃ l : List α, cs = [.slice A l.length c] ∧ l.length ≤ c ∧ d.C w A l.length l ∧ ∀ y ∈ l, ∃ ns, y = mk ns ∧ ns.length = fs.size ∧ ∀ n ∈ ns, U8 n := by
  rcases Go.Deep.open_slice hs h with ⟨rfl, _⟩ | ⟨a, len, cap, m, n, D, Pl, rfl, hb, hle, hcap, hm, _, hel⟩
  · exact ⟨none, 0, [], rfl, Nat.le_refl _, ⟨rfl, by simp, fun h => absurd h (by simp)⟩, by simp⟩
  · have key : ∀ j : Nat, ∃ ns : List Int, j < len → ns.length = fs.size ∧ (∀ n ∈ ns, U8 n) ∧ ∀ i u, (ns.map (Value.int .u8))[i]? = some u → w.cell? (a.add (j * fs.size + i)) = some u := fun j => by
      by_cases hj : j < len
      · obtain ⟨cs', h1, h2⟩ := hel j (by rw [hm]; split <;> omega)
        obtain ⟨ns, rfl, h3, h4⟩ := u8struct ht hc hone h2
        refine ⟨ns, fun _ => ⟨h3, h4, fun i u hu => ?_⟩⟩
        obtain ⟨_, hlen, hcell⟩ := World.cells?_some h1
        have hi : i < fs.size := by
          have := (List.getElem?_eq_some_iff.mp hu).1
          rw [List.length_map] at this
          omega
        rw [hc] at hcell
        rw [← Go.Deep.add_add, hcell i hi]
        exact hu
      · exact ⟨[], fun h => absurd h hj⟩
    obtain ⟨f, hf⟩ := Classical.axiomOfChoice key
    have hll : ((List.range len).map fun j => mk (f j)).length = len := by simp
    refine ⟨some a, cap, (List.range len).map fun j => mk (f j), by rw [hll], by rw [hll]; exact hle, ?_, ?_⟩
    · rw [hll]
      refine ⟨hll, by have : maxLen ≤ 9223372036854775807 := by decide
                      omega, fun _ => ⟨a, rfl, fun j y hy => ?_⟩⟩
      rw [List.getElem?_map] at hy
      obtain ⟨j', hj', rfl⟩ := Option.map_eq_some_iff.mp hy
      obtain ⟨hjl, e⟩ := List.getElem?_eq_some_iff.mp hj'
      rw [List.getElem_range] at e
      subst e
      rw [List.length_range] at hjl
      obtain ⟨g1, g2, g3⟩ := hf j hjl
      exact ⟨(f j).map (Value.int .u8), by rw [List.length_map, g1, hsz], hmk w _ g1, fun i u hu => by rw [hsz]; exact g3 i u hu⟩
    · intro y hy
      obtain ⟨j, hj, rfl⟩ := List.mem_map.mp hy
      obtain ⟨g1, g2, _⟩ := hf j (List.mem_range.mp hj)
      exact ⟨f j, rfl, g1, g2⟩
def mk87 (ns : List Int) : S87 := ⟨ns.getD 0 0, ns.getD 1 0, ns.getD 2 0, ns.getD 3 0, ns.getD 4 0⟩
def mk93 (ns : List Int) : S93 := ⟨ns.getD 0 0, ns.getD 1 0, ns.getD 2 0, ns.getD 3 0, ns.getD 4 0⟩
def mk59 (ns : List Int) : S59 := ⟨ns.getD 0 0, ns.getD 1 0, ns.getD 2 0, ns.getD 3 0, ns.getD 4 0, ns.getD 5 0⟩
theorem mk87_K (W : World) (ns : List Int) (h : ns.length = 5) : k87.K W (mk87 ns) (ns.map (Value.int .u8)) := by
  match ns, h with
  | [a, b, c, d, e], _ => exact k87_mk W ⟨a, b, c, d, e⟩
theorem mk93_K (W : World) (ns : List Int) (h : ns.length = 5) : k93.K W (mk93 ns) (ns.map (Value.int .u8)) := by
  match ns, h with
  | [a, b, c, d, e], _ => exact k93_mk W ⟨a, b, c, d, e⟩
theorem mk59_K (W : World) (ns : List Int) (h : ns.length = 6) : k59.K W (mk59 ns) (ns.map (Value.int .u8)) := by
  match ns, h with
  | [a, b, c, d, e, f], _ => exact k59_mk W ⟨a, b, c, d, e, f⟩
def Fields5 (fs : Array Field) : Bool := (List.range fs.size).all fun i => match fs[i]? with
  | some f => f.type == 5 && f.offset == i
  | none => false
theorem fields5 {fs : Array Field} (h : Fields5 fs = true) : ∀ i (h : i < fs.size), fs[i].type = 5 ∧ fs[i].offset = i := fun i hi => by
  have := List.all_eq_true.mp h i (List.mem_range.mpr hi)
  simp only [Array.getElem?_eq_getElem hi, Bool.and_eq_true, beq_iff_eq] at this
  exact this
set_option maxRecDepth 100000 in
theorem openOffs {fuel : Nat} {c0 c1 c2 : Value} {x : DataW H × List MemPlace} (h : DataW.trod enc Try.prog w base sp held fuel 37 [c0, c1, c2] = some x) : ∃ a b c : Int, c0 = .int .i8 a ∧ c1 = .int .i8 b ∧ c2 = .int .i8 c ∧ I8 a ∧ I8 b ∧ I8 c := by
  obtain ⟨xs, m, _, _, hl, hn, hi⟩ := DataW.trod_array Try.underlying37 h
  obtain ⟨x0, x1, x2, rfl⟩ : ∃ a b c, xs = [a, b, c] := by
    match xs, hn with
    | [a, b, c], _ => exact ⟨a, b, c, rfl⟩
  have h0 := hi 0 (by decide)
  have h1 := hi 1 (by decide)
  have h2 := hi 2 (by decide)
  have cc : Try.prog.cellsOf 36 = 1 := by kernel_rfl
  rw [cc] at h0 h1 h2
  obtain ⟨n0, e0, _, w0⟩ := DataW.trod_int Try.underlying36 (x := x0) h0
  obtain ⟨n1, e1, _, w1⟩ := DataW.trod_int Try.underlying36 (x := x1) h1
  obtain ⟨n2, e2, _, w2⟩ := DataW.trod_int Try.underlying36 (x := x2) h2
  simp at e0 e1 e2
  exact ⟨n0, n1, n2, e0, e1, e2, bounds_i8 w0, bounds_i8 w1, bounds_i8 w2⟩
theorem openU8 {fuel : Nat} {c : Value} {x : DataW H × List MemPlace} (h : DataW.trod enc Try.prog w base sp held fuel 5 [c] = some x) : ∃ n : Int, c = .int .u8 n ∧ U8 n := by
  obtain ⟨n, e, _, hw⟩ := DataW.trod_int Try.underlying5 h
  simp at e
  exact ⟨n, e, bounds_u8 hw⟩
set_option maxRecDepth 100000 in
theorem openPlan {r : Reach} {b : Nat} {v : Value} {d : DataW H} {ps : List MemPlace} (hv : Value.okWide Try.prog w r b 41 v) (h : DataW.Trod enc Try.prog w base sp held 41 v d ps) : ∃ (p : Plan) (a : PlanAt), v = .agg (p.cells a) ∧ PlanR w a p ∧ PlanOk p := by
  obtain ⟨cs, rfl, hs⟩ : ∃ cs : Array Value, v = .agg cs ∧ cs.size = 14 := by
    simp only [Value.okWide, Try.underlying41] at hv
    obtain ⟨cs, h1, h2, _⟩ := hv
    exact ⟨cs, h1, by rw [h2]; kernel_rfl⟩
  obtain ⟨cs⟩ := cs
  obtain ⟨c0, c1, c2, c3, c4, c5, c6, c7, c8, c9, c10, c11, c12, c13, rfl⟩ : ∃ c0 c1 c2 c3 c4 c5 c6 c7 c8 c9 c10 c11 c12 c13, cs = [c0, c1, c2, c3, c4, c5, c6, c7, c8, c9, c10, c11, c12, c13] := by
    match cs, hs with
    | [c0, c1, c2, c3, c4, c5, c6, c7, c8, c9, c10, c11, c12, c13], _ => exact ⟨c0, c1, c2, c3, c4, c5, c6, c7, c8, c9, c10, c11, c12, c13, rfl⟩
  obtain ⟨fuel, hf⟩ := h
  obtain ⟨xs, m, _, _, hl, hn, hi⟩ := DataW.trod_struct Try.underlying41 hf
  obtain ⟨x0, x1, x2, x3, x4, x5, x6, x7, x8, x9, x10, x11, rfl⟩ : ∃ x0 x1 x2 x3 x4 x5 x6 x7 x8 x9 x10 x11, xs = [x0, x1, x2, x3, x4, x5, x6, x7, x8, x9, x10, x11] := by
    match xs, hn with
    | [x0, x1, x2, x3, x4, x5, x6, x7, x8, x9, x10, x11], _ => exact ⟨x0, x1, x2, x3, x4, x5, x6, x7, x8, x9, x10, x11, rfl⟩
  have k5 : Try.prog.cellsOf 5 = 1 := by kernel_rfl
  have k35 : Try.prog.cellsOf 35 = 1 := by kernel_rfl
  have k37 : Try.prog.cellsOf 37 = 3 := by kernel_rfl
  have k38 : Try.prog.cellsOf 38 = 1 := by kernel_rfl
  have k39 : Try.prog.cellsOf 39 = 1 := by kernel_rfl
  have g0 := hi 0 { name := "Seed", type := 5, offset := 0, embedded := false, tag := "", pkgPath := "", byteOffset := 0 } rfl
  have g1 := hi 1 { name := "Parts", type := 35, offset := 1, embedded := false, tag := "", pkgPath := "", byteOffset := 8 } rfl
  have g2 := hi 2 { name := "Offsets", type := 37, offset := 2, embedded := false, tag := "", pkgPath := "", byteOffset := 32 } rfl
  have g3 := hi 3 { name := "Changes", type := 38, offset := 5, embedded := false, tag := "", pkgPath := "", byteOffset := 40 } rfl
  have g4 := hi 4 { name := "Troubles", type := 39, offset := 6, embedded := false, tag := "", pkgPath := "", byteOffset := 64 } rfl
  have g5 := hi 5 { name := "First", type := 5, offset := 7, embedded := false, tag := "", pkgPath := "", byteOffset := 88 } rfl
  have g6 := hi 6 { name := "Slots", type := 5, offset := 8, embedded := false, tag := "", pkgPath := "", byteOffset := 89 } rfl
  have g7 := hi 7 { name := "PerSlot", type := 5, offset := 9, embedded := false, tag := "", pkgPath := "", byteOffset := 90 } rfl
  have g8 := hi 8 { name := "Delay", type := 5, offset := 10, embedded := false, tag := "", pkgPath := "", byteOffset := 91 } rfl
  have g9 := hi 9 { name := "Chunk", type := 5, offset := 11, embedded := false, tag := "", pkgPath := "", byteOffset := 92 } rfl
  have g10 := hi 10 { name := "Loss", type := 5, offset := 12, embedded := false, tag := "", pkgPath := "", byteOffset := 93 } rfl
  have g11 := hi 11 { name := "Repeat", type := 5, offset := 13, embedded := false, tag := "", pkgPath := "", byteOffset := 94 } rfl
  simp only [k5, k35, k37, k38, k39] at g0 g1 g2 g3 g4 g5 g6 g7 g8 g9 g10 g11
  obtain ⟨n0, rfl, b0⟩ := openU8 (c := c0) (x := x0) g0
  obtain ⟨A1, d1, l1, e1, hl1, hc1, ho1⟩ := u8slice k87 mk87 Try.underlying35 Try.underlying87 (by kernel_rfl) (by kernel_rfl) (fields5 (by kernel_rfl)) mk87_K (x := x1) g1
  obtain ⟨o0, o1, o2, rfl, rfl, rfl, bo0, bo1, bo2⟩ := openOffs (c0 := c2) (c1 := c3) (c2 := c4) (x := x2) g2
  obtain ⟨A2, d2, l2, e2, hl2, hc2, ho2⟩ := u8slice k93 mk93 Try.underlying38 Try.underlying93 (by kernel_rfl) (by kernel_rfl) (fields5 (by kernel_rfl)) mk93_K (x := x3) g3
  obtain ⟨A3, d3, l3, e3, hl3, hc3, ho3⟩ := u8slice k59 mk59 Try.underlying39 Try.underlying59 (by kernel_rfl) (by kernel_rfl) (fields5 (by kernel_rfl)) mk59_K (x := x4) g4
  obtain ⟨n5, rfl, b5⟩ := openU8 (c := c7) (x := x5) g5
  obtain ⟨n6, rfl, b6⟩ := openU8 (c := c8) (x := x6) g6
  obtain ⟨n7, rfl, b7⟩ := openU8 (c := c9) (x := x7) g7
  obtain ⟨n8, rfl, b8⟩ := openU8 (c := c10) (x := x8) g8
  obtain ⟨n9, rfl, b9⟩ := openU8 (c := c11) (x := x9) g9
  obtain ⟨n10, rfl, b10⟩ := openU8 (c := c12) (x := x10) g10
  obtain ⟨n11, rfl, b11⟩ := openU8 (c := c13) (x := x11) g11
  obtain rfl : c1 = .slice A1 l1.length d1 := by simpa [Value.cells] using e1
  obtain rfl : c5 = .slice A2 l2.length d2 := by simpa [Value.cells] using e2
  obtain rfl : c6 = .slice A3 l3.length d3 := by simpa [Value.cells] using e3
  refine ⟨⟨n0, l1, o0, o1, o2, l2, l3, n5, n6, n7, n8, n9, n10, n11⟩, ⟨A1, d1, A2, d2, A3, d3⟩, rfl, ⟨hc1, hl1, hc2, hl2, hc3, hl3⟩, ⟨b0, bo0, bo1, bo2, b5, b6, b7, b8, b9, b10, b11, ?_, ?_, ?_⟩⟩
  · intro x hx
    obtain ⟨ns, rfl, hq, hu⟩ := ho1 x hx
    match ns, hq with
    | [q0, q1, q2, q3, q4], _ => exact ⟨hu q0 (by simp), hu q1 (by simp), hu q2 (by simp), hu q3 (by simp), hu q4 (by simp)⟩
  · intro x hx
    obtain ⟨ns, rfl, hq, hu⟩ := ho2 x hx
    match ns, hq with
    | [q0, q1, q2, q3, q4], _ => exact ⟨hu q0 (by simp), hu q1 (by simp), hu q2 (by simp), hu q3 (by simp), hu q4 (by simp)⟩
  · intro x hx
    obtain ⟨ns, rfl, hq, hu⟩ := ho3 x hx
    match ns, hq with
    | [q0, q1, q2, q3, q4, q5], _ => exact ⟨hu q0 (by simp), hu q1 (by simp), hu q2 (by simp), hu q3 (by simp), hu q4 (by simp), hu q5 (by simp)⟩
end
end Go.Proofs.Ytdadnapfecmmdaa.P
