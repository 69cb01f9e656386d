/- Own walk over simulate.traces. -/
import Derived.Test.YtdadnapfecmmdaaHv
import Derived.Test.YtdadnapfecmmdaaHf
namespace Go.Proofs.Ytdadnapfecmmdaa.P
set_option linter.unusedVariables false
set_option linter.unusedSimpArgs false
open Go.RowKit Go.Proofs.YtdadnapfecmmdaaW.PrintWords Go.Proofs.YtdadnapfecmmdaaW.PrintLast Go.Proofs.YtdadnapfecmmdaaW.PrintMore
open Go.Proofs.Ytdadnapfecmmdaa.Hm
structure Tr where
  id : Int
  l : List Sp
def trc : List (Tr × Value) → List Value
  | [] => []
  | x :: r => [.int .i64 x.1.id, .int .i64 1, x.2] ++ trc r
theorem trc_snoc (l : List (Tr × Value)) (x : Tr × Value) : trc (l ++ [x]) = trc l ++ [.int .i64 x.1.id, .int .i64 1, x.2] := by
  induction l with
  | nil => rfl
  | cons a r ih => simp [trc, ih]
/-- The rows of spans of the traces. -/
def TsR (W : World) (base : Nat) (xs : List (Tr × Value)) : Prop := ∀ x ∈ xs, W.ownsRow base 56 14 x.2 x.1.l.length (spc x.1.l)
def trK (tv : Int → Option (List Sp)) (f : Sp → Sp) : Nat → Int → List Tr → Option (List Tr)
  | 0, _, acc => some acc
  | j + 1, k, acc => if acc.length < 100000 then (tv k).bind fun l => match l with
    | [] => none
    | s :: r => trK tv f j (k + 1) (acc ++ [⟨s.tr, (s :: r).map f⟩])
    else none
def trS (n : Nat) (c : Cfg) (f : Sp → Sp) : Nat → Int → List Tr → Option (List Tr)
  | 0, _, acc => some acc
  | j + 1, s, acc => (trK (traceV n c s) f c.per.toNat 0 acc).bind fun a => trS n c f j (s + 1) a
def tracesV (n : Nat) (c : Cfg) (f : Sp → Sp) : Option (List Tr) := if 0 ≤ c.sfrom ∧ c.sto ≤ 1048576 ∧ c.per ≤ 1048576 then trS n c f (c.sto - c.sfrom).toNat c.sfrom [] else none
theorem info51 : (Try.prog.info? 51).map (fun i => (i.zero, i.size, i.bytes)) = some (some (.agg #[.int .i64 0, .int .i64 0, .slice none 0 0]), 3, 40) := by kernel_rfl
theorem own_base {W : World} {b b' : Nat} {e : TypeId} {sz n : Nat} {v : Value} {xs : List Value} (h : W.ownsRow b e sz v n xs) (hb : b' ≤ b) : W.ownsRow b' e sz v n xs := by
  refine ⟨h.1, ?_⟩
  rcases h.2 with h | ⟨g, cap, cur, h1, h2, h3⟩
  · exact .inl h
  · exact .inr ⟨g, cap, cur, h1, Nat.le_trans hb h2, h3⟩
theorem TsR.below {W W' : World} {base : Nat} {xs : List (Tr × Value)} (h : TsR W base xs) (hb : Below W.heap.size W W') : TsR W' base xs := fun x hx => pw_own_below (h x hx) hb
theorem own_keep {W W' : World} {b : Nat} {e : TypeId} {sz n : Nat} {v : Value} {xs : List Value} (h : W.ownsRow b e sz v n xs) (hk : ∀ (g : Nat) (cur : Array Value), W.heap[g]? = some (Obj.cells cur e (0, 0)) → W'.heap[g]? = W.heap[g]?) : W'.ownsRow b e sz v n xs := by
  refine ⟨h.1, ?_⟩
  rcases h.2 with h | ⟨g, cap, cur, h1, h2, h3, h4⟩
  · exact .inl h
  · exact .inr ⟨g, cap, cur, h1, h2, (hk g cur h3).trans h3, h4⟩
theorem own_some {W : World} {b : Nat} {e : TypeId} {sz n : Nat} {v : Value} {xs : List Value} (h : W.ownsRow b e sz v n xs) (hn : 0 < n) : ∃ (r cp : Nat) (cur : Array Value), v = .slice (some ⟨r, 0, none⟩) n cp ∧ W.heap[r]? = some (Obj.cells cur e (0, 0)) ∧ b ≤ r := by
  rcases h.2 with ⟨_, h⟩ | ⟨g, cap, cur, h1, h2, h3, h4⟩
  · omega
  · exact ⟨g, cap, cur, h1, h3, h2⟩
/-- The traces at a value. -/
def TsOut (base : Nat) (w' : World) (ts : List Tr) (v : Value) : Prop := ∃ xs : List (Tr × Value), xs.map (·.1) = ts ∧ w'.ownsRow base 51 3 v xs.length (trc xs) ∧ TsR w' base xs
def mid (f : Sp → Sp) (l : List Sp) (i : Nat) : List Sp := (l.take i).map f ++ l.drop i
theorem mid_len (f : Sp → Sp) (l : List Sp) (i : Nat) : (mid f l i).length = l.length := by
  unfold mid
  rw [List.length_append, List.length_map, List.length_take, List.length_drop]
  omega
theorem mid_get? (f : Sp → Sp) (l : List Sp) (i : Nat) (hi : i < l.length) : (mid f l i)[i]? = some l[i] := by
  unfold mid
  rw [List.getElem?_append_right (by simp; omega)]
  simp only [List.length_map, List.length_take, List.getElem?_drop]
  rw [show i + (i - min i l.length) = i from by omega, List.getElem?_eq_getElem hi]
theorem mid_get (f : Sp → Sp) (l : List Sp) (i : Nat) (hi : i < l.length) (h : i < (mid f l i).length) : (mid f l i)[i] = l[i] := by
  have h1 := mid_get? f l i hi
  rw [List.getElem?_eq_getElem h] at h1
  exact Option.some.inj h1
theorem mid_set (f : Sp → Sp) (l : List Sp) (i : Nat) (hi : i < l.length) : (mid f l i).set i (f l[i]) = mid f l (i + 1) := by
  unfold mid
  rw [List.set_append_right _ _ (by simp; omega)]
  rw [List.take_succ_eq_append_getElem hi, List.drop_eq_getElem_cons hi]
  simp only [List.length_map, List.length_take, List.map_append, List.map_cons, List.map_nil, List.append_assoc, List.cons_append, List.nil_append]
  rw [show i - min i l.length = 0 from by omega]
  rfl
theorem mid_end (f : Sp → Sp) (l : List Sp) : mid f l l.length = l.map f := by simp [mid]
theorem mid_zero (f : Sp → Sp) (l : List Sp) : mid f l 0 = l := by simp [mid]
set_option maxHeartbeats 8000000 in
set_option maxRecDepth 100000 in
theorem traces_err (k : Nat) (c : Cfg) (p : CfgAt) (w : World) (fv : Value) (r : Int) (hR : CfgR w p c) (hck : ckAll k c = some r) (hr : r ≠ 0) :
    Calls Try.prog 36 #[c.val p, fv] w fun e w' => e = .returned (.tuple #[.slice none 0 0, .int .i64 r]) ∧ Below w.heap.size w w' := by
  have HR := Aside0.mk hR
  have HCK := Aside0.mk hck
  clear hR hck
  obtain ⟨A1, c1, A2, c2, A3, c3, A4, c4⟩ := p
  have hrb : (r != 0) = true := by simpa using hr
  go_enter Try.func36, Try.ntmps36
  go_wp2_with fail
  refine (check_calls k c ⟨A1, c1, A2, c2, A3, c3, A4, c4⟩ r _ (HR.out.below (below_alloc (Below.refl _ _) _)) HCK.out).mono ?_
  rintro e w1 ⟨rfl, hb1⟩
  have HB := Aside0.mk (below_step (below_alloc (Below.refl w.heap.size w) _) hb1)
  clear hb1
  go_wp2_with fail
  go_returns
  exact ⟨by rfl, HB.out⟩
set_option maxHeartbeats 8000000 in
set_option maxRecDepth 100000 in
theorem traces_calls (n k : Nat) (c : Cfg) (p : CfgAt) (w : World) (fid : Nat) (caps : Array Value) (f : Sp → Sp) (ts : List Tr) (hR : CfgR w p c) (hsh : Shows fid caps f w.heap.size w (fun W => Below w.heap.size w W)) (hck : ckAll k c = some 0) (h : tracesV n c f = some ts) :
    Calls Try.prog 36 #[c.val p, .func (.func fid) #[] caps] w fun e w' => ∃ v, e = .returned (.tuple #[v, .int .i64 0]) ∧ TsOut w.heap.size w' ts v ∧ Below w.heap.size w w' := by
  unfold tracesV at h
  by_cases hg : 0 ≤ c.sfrom ∧ c.sto ≤ 1048576 ∧ c.per ≤ 1048576
  case neg => rw [if_neg hg] at h; cases h
  rw [if_pos hg] at h
  obtain ⟨hg0, hg1, hg2⟩ := hg
  have HR := Aside0.mk hR
  have HA := Aside0.mk h
  have HCK := Aside0.mk hck
  have eg := hsh.1
  have HSH := Aside0.mk hsh.2
  clear hR h hck hsh
  obtain ⟨A1, c1, A2, c2, A3, c3, A4, c4⟩ := p
  go_enter Try.func36, Try.ntmps36
  go_wp2_with fail
  refine (check_calls k c ⟨A1, c1, A2, c2, A3, c3, A4, c4⟩ 0 _ (HR.out.below (below_alloc (Below.refl _ _) _)) HCK.out).mono ?_
  rintro e w1 ⟨rfl, hb1⟩
  have HB := Aside0.mk (below_step (below_alloc (Below.refl w.heap.size w) _) hb1)
  have HX := Aside0.mk (blk_below (blk_new w (.cells (c.cells ⟨A1, c1, A2, c2, A3, c3, A4, c4⟩) 31)) hb1)
  clear hb1 HCK
  have q5 : w1.cell? ⟨w.heap.size, 5, none⟩ = some (.int .i64 c.sfrom) := (blk_cell HX.out 5).trans rfl
  go_wp2_with fail
  clear q5
  go_loopg [7, 8] (c.sto - c.sfrom).toNat (fun gg s7 s8 wr => ∃ (j : Nat) (s : Int) (acc : List Tr) (xs : List (Tr × Value)) (cp : Nat) (A : Option Addr), s7 = .slice A xs.length cp ∧ s8 = .int .i64 s ∧ j ≤ gg ∧ Aside0 (j = (c.sto - s).toNat) ∧ c.sfrom ≤ s ∧ Aside0 (trS n c f j s acc = some ts) ∧ Aside0 (xs.map (·.1) = acc) ∧ Aside0 (wr.ownsRow w.heap.size 51 3 (.slice A xs.length cp) xs.length (trc xs)) ∧ Aside0 (TsR wr w.heap.size xs) ∧ Aside0 (Below w.heap.size w wr) ∧ Aside0 (wr.heap[w.heap.size]? = some (.cells (c.cells ⟨A1, c1, A2, c2, A3, c3, A4, c4⟩) 31 (0, 0))))
  case atStart => exact ⟨(c.sto - c.sfrom).toNat, c.sfrom, [], [], 0, none, by rfl, by rfl, by omega, ⟨rfl⟩, by omega, HA, ⟨rfl⟩, ⟨rfl, .inl ⟨rfl, rfl⟩⟩, ⟨fun _ h => by cases h⟩, HB, HX⟩
  case round =>
    clear HA HB HX
    obtain ⟨j, s, acc, xs, cp, A, rfl, rfl, hj, HJ, hs0, HA, HM, HO, HT, HB, HX⟩ := hrel
    have q5 : wr.cell? ⟨w.heap.size, 6, none⟩ = some (.int .i64 c.sto) := (blk_cell HX.out 6).trans rfl
    have q6 : wr.cell? ⟨w.heap.size, 7, none⟩ = some (.int .i64 c.per) := (blk_cell HX.out 7).trans rfl
    cases j with
    | zero =>
      have hjj := HJ.out
      have hx : ¬ s < c.sto := by omega
      have g0 : decide (s < c.sto) = false := by simpa using hx
      have hA := HA.out
      rw [trS] at hA
      obtain rfl := Option.some.inj hA
      clear hA HA hjj HJ
      go_wp2_with fail
      refine bodyPost_ret (results_tmp2 rfl _ _ _) rfl ?_
      exact ⟨_, by rfl, ⟨xs, HM.out, HO.out, HT.out⟩, HB.out⟩
    | succ j =>
      have hjj := HJ.out
      have hx : s < c.sto := by omega
      have g0 : decide (s < c.sto) = true := by simpa using hx
      have hA := HA.out
      rw [trS] at hA
      obtain ⟨a1, hK, hA⟩ := Option.bind_eq_some_iff.mp hA
      have HA := Aside0.mk hA
      have HK := Aside0.mk hK
      have s1 : IntKind.i64.wrap (s + 1) = s + 1 := IntWalk.i64_in _ (by omega)
      have HJ1 := Aside0.mk (show j = (c.sto - (s + 1)).toNat from by omega)
      clear hA hK hjj HJ
      go_wp2_with fail
      obtain ⟨wq, rfl⟩ : ∃ wq : World, wq = wr := ⟨_, rfl⟩
      go_loopg [7, 29] c.per.toNat (fun gg s7 s29 wr => ∃ (i : Nat) (kk : Int) (acc : List Tr) (xs : List (Tr × Value)) (cp : Nat) (A : Option Addr), s7 = .slice A xs.length cp ∧ s29 = .int .i64 kk ∧ i ≤ gg ∧ Aside0 (i = (c.per - kk).toNat) ∧ 0 ≤ kk ∧ Aside0 (trK (traceV n c s) f i kk acc = some a1) ∧ Aside0 (xs.map (·.1) = acc) ∧ Aside0 (wr.ownsRow w.heap.size 51 3 (.slice A xs.length cp) xs.length (trc xs)) ∧ Aside0 (TsR wr w.heap.size xs) ∧ Aside0 (Below w.heap.size w wr) ∧ Aside0 (wr.heap[w.heap.size]? = some (.cells (c.cells ⟨A1, c1, A2, c2, A3, c3, A4, c4⟩) 31 (0, 0))))
      case atStart => exact ⟨c.per.toNat, 0, acc, xs, cp, A, by rfl, by rfl, by omega, ⟨by omega⟩, by omega, HK, HM, HO, HT, HB, HX⟩
      case round =>
        clear HK HM HO HT HB HX q5 q6 g0
        obtain ⟨i, kk, acc, xs, cp, A, rfl, rfl, hi, HI, hk0, HK, HM, HO, HT, HB, HX⟩ := hrel
        cases i with
        | zero =>
          have hii := HI.out
          have hx2 : ¬ kk < c.per := by omega
          have g0 : decide (kk < c.per) = false := by simpa using hx2
          have hK := HK.out
          rw [trK] at hK
          obtain rfl := Option.some.inj hK
          clear hK HK hii HI
          go_wp2_with fail
          go_roundg j
          case measure => omega
          case rel => exact ⟨j, s + 1, acc, xs, cp, A, by rfl, by go_num, Nat.le_refl _, HJ1, by omega, HA, HM, HO, HT, HB, HX⟩
        | succ i =>
          have hii := HI.out
          have hx2 : kk < c.per := by omega
          have g0 : decide (kk < c.per) = true := by simpa using hx2
          have hK := HK.out
          rw [trK] at hK
          by_cases hacc : acc.length < 100000
          case neg => rw [if_neg hacc] at hK; cases hK
          rw [if_pos hacc] at hK
          obtain ⟨l, hl, hK⟩ := Option.bind_eq_some_iff.mp hK
          obtain ⟨sp0, sps, rfl⟩ : ∃ a b, l = a :: b := by
            cases l with
            | nil => cases hK
            | cons a b => exact ⟨a, b, rfl⟩
          have HK' := Aside0.mk hK
          have HL := Aside0.mk hl
          have HI1 := Aside0.mk (show i = (c.per - (kk + 1)).toNat from by omega)
          have s2 : IntKind.i64.wrap (kk + 1) = kk + 1 := IntWalk.i64_in _ (by omega)
          clear hK hl HK hii HI
          have p0 : wr.cell? ⟨w.heap.size, 0, none⟩ = some (.int .i64 c.seed) := (blk_cell HX.out 0).trans rfl
          have p1 : wr.cell? ⟨w.heap.size, 1, none⟩ = some (.slice A1 c.sv.length c1) := (blk_cell HX.out 1).trans rfl
          have p2 : wr.cell? ⟨w.heap.size, 2, none⟩ = some (.slice A2 c.off.length c2) := (blk_cell HX.out 2).trans rfl
          have p3 : wr.cell? ⟨w.heap.size, 3, none⟩ = some (.slice A3 c.ch.length c3) := (blk_cell HX.out 3).trans rfl
          have p4 : wr.cell? ⟨w.heap.size, 4, none⟩ = some (.slice A4 c.fl.length c4) := (blk_cell HX.out 4).trans rfl
          have p5 : wr.cell? ⟨w.heap.size, 5, none⟩ = some (.int .i64 c.sfrom) := (blk_cell HX.out 5).trans rfl
          have p6 : wr.cell? ⟨w.heap.size, 6, none⟩ = some (.int .i64 c.sto) := (blk_cell HX.out 6).trans rfl
          have p7 : wr.cell? ⟨w.heap.size, 7, none⟩ = some (.int .i64 c.per) := (blk_cell HX.out 7).trans rfl
          have p8 : wr.cell? ⟨w.heap.size, 8, none⟩ = some (.int .i64 c.delay) := (blk_cell HX.out 8).trans rfl
          have p9 : wr.cell? ⟨w.heap.size, 9, none⟩ = some (.int .i64 c.chunk) := (blk_cell HX.out 9).trans rfl
          have p10 : wr.cell? ⟨w.heap.size, 10, none⟩ = some (.int .i64 c.loss) := (blk_cell HX.out 10).trans rfl
          have p11 : wr.cell? ⟨w.heap.size, 11, none⟩ = some (.int .i64 c.rep) := (blk_cell HX.out 11).trans rfl
          go_wp2_with fail
          refine (trace_calls n c ⟨A1, c1, A2, c2, A3, c3, A4, c4⟩ s kk wr (sp0 :: sps) (HR.out.below HB.out) HL.out).mono ?_
          rintro e w3 ⟨v0, rfl, ho0, hb0⟩
          obtain ⟨r, cp0, cur, rfl, hr, hbr⟩ := own_some ho0 (by simp)
          have HO0 := Aside0.mk ho0
          have HR0 := Aside0.mk hr
          have HB0 := Aside0.mk hb0
          have hw3 := hb0.size
          obtain ⟨e0, _, _, hr3⟩ := own_cell56 HO0.out 0 0 (by simp) (by omega)
          replace e0 : w3.cell? ⟨r, 0, none⟩ = some (.int .i64 sp0.tr) := by simpa [Sp.cells] using e0
          clear ho0 hr hb0 p0 p1 p2 p3 p4 p5 p6 p7 p8 p9 p10 p11 HL
          have n1 : r ≠ w3.heap.size := by omega
          have hlen : (sp0 :: sps).length = sps.length + 1 := rfl
          go_wp2_with fail
          obtain ⟨wt, rfl⟩ : ∃ wt : World, wt = wr := ⟨_, rfl⟩
          have hbw : Below wt.heap.size wt (w3.alloc (.cells #[.int .i64 sp0.tr, .int .i64 1, .slice (some ⟨r, 0, none⟩) (sps.length + 1) cp0] 51)) := below_alloc HB0.out _
          have HB4 := Aside0.mk hbw
          have HO4 : Aside0 ((w3.alloc (.cells #[.int .i64 sp0.tr, .int .i64 1, .slice (some ⟨r, 0, none⟩) (sps.length + 1) cp0] 51)).ownsRow wt.heap.size 56 14 (.slice (some ⟨r, 0, none⟩) (sps.length + 1) cp0) (sps.length + 1) (spc (mid f (sp0 :: sps) 0))) := ⟨by rw [mid_zero]; exact pw_own_below HO0.out (below_alloc (Below.refl _ _) _)⟩
          have HV4 := Aside0.mk (blk_new w3 (.cells #[.int .i64 sp0.tr, .int .i64 1, .slice (some ⟨r, 0, none⟩) (sps.length + 1) cp0] 51))
          have hbig : sps.length + 1 ≤ 9223372036854775807 := by
            rcases HO0.out.2 with ⟨_, h⟩ | ⟨_, cap, _, _, _, _, h1, h2, _⟩
            · simp at h
            · have h3 : (sp0 :: sps).length = sps.length + 1 := rfl
              have h4 : maxLen ≤ 9223372036854775807 := by decide
              omega
          clear hbw HO0 HR0 HB0 e0 hlen
          obtain ⟨bx, hbx⟩ : ∃ b, b = w3.heap.size := ⟨_, rfl⟩
          rw [← hbx] at HV4 n1 ⊢
          have HBX := Aside0.mk hbx
          clear hbx
          go_loopg [46] (sps.length + 1) (fun gg s46 w4 => ∃ (m : Nat), m ≤ sps.length + 1 ∧ sps.length + 1 - m ≤ gg ∧ s46 = .int .i64 m ∧ Aside0 (w4.ownsRow wt.heap.size 56 14 (.slice (some ⟨r, 0, none⟩) (sps.length + 1) cp0) (sps.length + 1) (spc (mid f (sp0 :: sps) m))) ∧ Aside0 (w4.heap[bx]? = some (.cells #[.int .i64 sp0.tr, .int .i64 1, .slice (some ⟨r, 0, none⟩) (sps.length + 1) cp0] 51 (0, 0))) ∧ Aside0 (Below wt.heap.size wt w4))
          case atStart => exact ⟨0, by omega, by omega, by rfl, HO4, HV4, HB4⟩
          case round =>
            clear HO4 HV4 HB4
            obtain ⟨m, hm, hgm, rfl, HO4, HV4, HB4⟩ := hrel
            have q2 : wr.cell? ⟨bx, 2, none⟩ = some (.slice (some ⟨r, 0, none⟩) (sps.length + 1) cp0) := (blk_cell HV4.out 2).trans rfl
            by_cases hlt : m < sps.length + 1
            · have g1 : decide ((m : Int) < (sps.length : Int) + 1) = true := by simp; omega
              have g2 : (m : Int) < (sps.length : Int) + 1 := by omega
              have g3 : (m : Int) < ((sps.length + 1 : Nat) : Int) := by omega
              have s3 : IntKind.i64.wrap ((m : Int) + 1) = (m : Int) + 1 := IntWalk.i64_in _ (by omega)
              go_wp2_with fail
              have hml : (mid f (sp0 :: sps) m).length = sps.length + 1 := mid_len f (sp0 :: sps) m
              have ho' : wr.ownsRow wt.heap.size 56 14 (.slice (some ⟨r, 0, none⟩) (mid f (sp0 :: sps) m).length cp0) (mid f (sp0 :: sps) m).length (spc (mid f (sp0 :: sps) m)) := by rw [hml]; exact HO4.out
              have hbW := below_step HB.out HB4.out
              have hc := HSH.out wr r cp0 wt.heap.size m (mid f (sp0 :: sps) m) (by omega) hbW hbW HB.out.size HB4.out.size ho'
              rw [mid_get f (sp0 :: sps) m hlt, mid_set f (sp0 :: sps) m hlt, hml] at hc
              refine hc.mono ?_
              rintro e w5 ⟨rfl, ho5, hb5, hk5⟩
              have hbxw : bx < wr.heap.size := blk_lt HV4.out
              have HV5 := Aside0.mk ((hk5 bx hbxw (Ne.symm n1)).trans HV4.out)
              have HO5 := Aside0.mk ho5
              have HB5 := Aside0.mk (HB4.out.trans hb5)
              clear ho5 hb5 hk5 hc ho' hbW hml q2 HO4 HV4 HB4
              go_wp2_with fail
              go_roundg (sps.length + 1 - (m + 1))
              case measure => omega
              case rel => exact ⟨m + 1, by omega, Nat.le_refl _, by go_num, HO5, HV5, HB5⟩
            · obtain rfl : m = sps.length + 1 := by omega
              have g1 : decide (((sps.length + 1 : Nat) : Int) < (sps.length : Int) + 1) = false := by simp
              have q0 : wr.cell? ⟨bx, 0, none⟩ = some (.int .i64 sp0.tr) := (blk_cell HV4.out 0).trans rfl
              have q1 : wr.cell? ⟨bx, 1, none⟩ = some (.int .i64 1) := (blk_cell HV4.out 1).trans rfl
              have hO := HO4.out
              have hlen : mid f (sp0 :: sps) (sps.length + 1) = (sp0 :: sps).map f := mid_end f (sp0 :: sps)
              rw [hlen] at hO
              have HO5 := Aside0.mk (own_base hO HB.out.size)
              have HT5 := Aside0.mk (HT.out.below HB4.out)
              have HO6 := Aside0.mk (pw_own_below HO.out HB4.out)
              have HX5 := Aside0.mk (blk_below HX.out HB4.out)
              have HB5 := Aside0.mk (below_step HB.out HB4.out)
              have hxl : xs.length < 100000 := by
                have h1 := congrArg List.length HM.out
                rw [List.length_map] at h1
                omega
              clear hO hlen HO4 HV4 HB4 HT HO HX HB
              have hbase : w.heap.size ≤ wr.heap.size := HB5.out.size
              have q2 : wr.cell? ⟨bx, 2, none⟩ = some (.slice (some ⟨r, 0, none⟩) (sps.length + 1) cp0) := q2
              go_wp2_with (at_builtin; go_must (refine print_append_cells (w0 := w) w.heap.size rfl _ _ 43 51 _ 3 40 rfl Try.underlying43 info51 rfl (by decide) (by decide) (.slice A xs.length cp) xs.length (trc xs) [.int .i64 sp0.tr, .int .i64 1, .slice (some ⟨r, 0, none⟩) (sps.length + 1) cp0] rfl ?c4 rfl ?c1 HO6.out HB5.out ?c2 ?c3 ?_; (case c1 => intro u hu; simp at hu; rcases hu with rfl | rfl | rfl <;> rfl); (case c4 => show Value.slice (some ⟨wr.heap.size, 0, none⟩) 1 1 = _; first | rfl | simp); (case c2 => first | omega | (simp; omega)); (case c3 => first | omega | (simp; omega)); intro v1 w1 hown1 hb1 hg1 hat1; obtain ⟨A1', cp1, rfl⟩ := own_slice hown1; have HW := Aside0.mk hown1; have HG := Aside0.mk hg1; have HB6 := Aside0.mk hb1; clear hown1 hg1 hb1 hat1))
              have hkeep : ∀ (b : Nat) (cur : Array Value) (ty : TypeId), ty ≠ 51 → wr.heap[b]? = some (Obj.cells cur ty (0, 0)) → w1.heap[b]? = wr.heap[b]? := fun b cur ty hty hb => HG.out.block b (blk_lt hb) (fun e => by
                obtain ⟨cells, hc⟩ := own_typed HO6.out b e.symm
                rw [hb] at hc
                injection hc with hc
                injection hc with _ h2
                exact hty h2)
              have HT7 : Aside0 (TsR w1 w.heap.size (xs ++ [(⟨sp0.tr, (sp0 :: sps).map f⟩, .slice (some ⟨r, 0, none⟩) (sps.length + 1) cp0)])) := ⟨fun x hx => by
                rcases List.mem_append.mp hx with hx | hx
                · exact own_keep (HT5.out x hx) (fun b cur hb => hkeep b cur 56 (by decide) hb)
                · obtain rfl := List.mem_singleton.mp hx
                  have h9 := own_keep HO5.out (fun b cur hb => hkeep b cur 56 (by decide) hb)
                  simpa using h9⟩
              have HX7 := Aside0.mk ((hkeep _ _ 31 (by decide) HX5.out).trans HX5.out)
              have HO7 : Aside0 (w1.ownsRow w.heap.size 51 3 (.slice A1' (xs ++ [((⟨sp0.tr, (sp0 :: sps).map f⟩ : Tr), Value.slice (some ⟨r, 0, none⟩) (sps.length + 1) cp0)]).length cp1) (xs ++ [((⟨sp0.tr, (sp0 :: sps).map f⟩ : Tr), Value.slice (some ⟨r, 0, none⟩) (sps.length + 1) cp0)]).length (trc (xs ++ [((⟨sp0.tr, (sp0 :: sps).map f⟩ : Tr), Value.slice (some ⟨r, 0, none⟩) (sps.length + 1) cp0)]))) := ⟨by
                rw [trc_snoc, List.length_append]
                exact HW.out⟩
              have HM7 : Aside0 ((xs ++ [((⟨sp0.tr, (sp0 :: sps).map f⟩ : Tr), Value.slice (some ⟨r, 0, none⟩) (sps.length + 1) cp0)]).map (·.1) = acc ++ [⟨sp0.tr, (sp0 :: sps).map f⟩]) := ⟨by
                rw [List.map_append, HM.out]
                rfl⟩
              go_roundg i
              case measure => omega
              case rel => exact ⟨i, kk + 1, _, _, cp1, A1', by rw [List.length_append]; rfl, by go_num, Nat.le_refl _, HI1, by omega, HK', HM7, HO7, HT7, HB6, HX7⟩
end Go.Proofs.Ytdadnapfecmmdaa.P
