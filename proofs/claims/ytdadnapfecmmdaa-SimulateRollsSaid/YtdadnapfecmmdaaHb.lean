/- Own walk over simulate.Config.count: the number of spans of a trace. -/
import Derived.Test.YtdadnapfecmmdaaHa
import Derived.Test.YtdadnapfecmmdaaHm
namespace Go.Proofs.Ytdadnapfecmmdaa.P
set_option linter.unusedVariables false
set_option linter.unusedSimpArgs false
open Go.RowKit Go.Proofs.YtdadnapfecmmdaaW.PrintWords Go.Proofs.YtdadnapfecmmdaaW.PrintLast Go.Proofs.YtdadnapfecmmdaaW.PrintMore
open Go.Proofs.Ytdadnapfecmmdaa.Hm

def cntName (m : List (ByteArray × Int)) (name : ByteArray) : Int := (mget m name).getD 0
def cntSum (m : List (ByteArray × Int)) : List ByteArray → Int → Int
  | [], n => n
  | x :: r, n => cntSum m r (wrap64 (n + wrap64 (1 + cntName m x)))
def cntMap : List S64 → List (ByteArray × Int)
  | [] => []
  | s :: r => mput (cntMap r) s.f0 (cntSum (cntMap r) s.f5 1)
theorem cntSum_step (m : List (ByteArray × Int)) (l : List ByteArray) (n : Int) (j : Nat) (h : j < l.length) : cntSum m (l.drop j) n = cntSum m (l.drop (j + 1)) (wrap64 (n + wrap64 (1 + cntName m l[j]))) := by
  rw [List.drop_eq_getElem_cons h]
  rfl
theorem cntMap_step (l : List S64) (k : Nat) (h : k < l.length) : cntMap (l.drop k) = mput (cntMap (l.drop (k + 1))) l[k].f0 (cntSum (cntMap (l.drop (k + 1))) l[k].f5 1) := by
  conv => lhs; rw [List.drop_eq_getElem_cons h]
  rfl
def cntOf (l : List S64) : Int := cntName (cntMap l) (rd_T64 l 0).f0
theorem zero3 : ∀ w : World, (zeroValue 3).run Try.prog w = .ok (.int .i64 0) w := fun _ => by kernel_rfl
theorem match_int (m : List (ByteArray × Int)) (x : ByteArray) : ((mget m x).elim (Value.int .i64 0) (Value.int .i64)) = Value.int .i64 (cntName m x) := by
  unfold cntName
  cases mget m x <;> rfl
theorem string_at {w : World} {A : Option Addr} {n : Nat} {xs : List ByteArray} (h : Kd.C Kd.string w A n xs) (i : Nat) (hi : i < xs.length) : ∃ ad, A = some ad ∧ w.cell? (ad.add i) = some (.string xs[i]) := by
  obtain ⟨ad, e, hc⟩ := h.2.2 (by have := h.1; omega)
  obtain ⟨c, hl, hk, hcell⟩ := hc i xs[i] (by simp [hi])
  have hk' : c = [.string xs[i]] := hk
  subst hk'
  refine ⟨ad, e, ?_⟩
  have := hcell 0 _ rfl
  have h1 : (Kd.string).sz = 1 := rfl
  rw [h1] at this
  simpa using this

abbrev Cfg.cells (c : Cfg) (p : CfgAt) : Array Value := #[.int .i64 c.seed, .slice p.A1 c.sv.length p.c1, .slice p.A2 c.off.length p.c2, .slice p.A3 c.ch.length p.c3, .slice p.A4 c.fl.length p.c4, .int .i64 c.sfrom, .int .i64 c.sto, .int .i64 c.per, .int .i64 c.delay, .int .i64 c.chunk, .int .i64 c.loss, .int .i64 c.rep]
set_option maxHeartbeats 4000000 in
set_option maxRecDepth 100000 in
theorem count_calls (c : Cfg) (p : CfgAt) (w : World) (hR : CfgR w p c) (hne : 1 ≤ c.sv.length) :
    Calls Try.prog 43 #[c.val p] w fun e w' => e = .returned (.int .i64 (cntOf c.sv)) ∧ Below w.heap.size w w' := by
  have HR := Aside0.mk hR.r1
  have hbig : c.sv.length ≤ 9223372036854775807 := hR.r1.2.1
  clear hR
  obtain ⟨A1, c1, A2, c2, A3, c3, A4, c4⟩ := p
  have hmm := @run_makeMap Try.prog
  change Aside0 (Kd.C k64 w A1 c.sv.length c.sv) at HR
  go_enter Try.func43, Try.ntmps43
  go_wp2
  go_loopg [4] c.sv.length (fun gg s4 wr => ∃ (k : Nat) (i : Int), k ≤ c.sv.length ∧ k ≤ gg ∧ s4 = .int .i64 i ∧ Aside0 (i = (k : Int) - 1) ∧ Aside0 (wr.heap[w.heap.size]? = some (.cells (c.cells ⟨A1, c1, A2, c2, A3, c3, A4, c4⟩) 31 (0, 0))) ∧ Aside0 (MapIs wr (w.heap.size + 1) Value.string (Value.int .i64) (cntMap (c.sv.drop k))) ∧ Aside0 (Below w.heap.size w wr))
  case atStart =>
    refine ⟨c.sv.length, (c.sv.length : Int) - 1, Nat.le_refl _, Nat.le_refl _, by simp, ⟨rfl⟩, ⟨?_⟩, ⟨?_⟩, ⟨below_alloc (below_alloc (Below.refl _ _) _) _⟩⟩
    · exact blk_alloc (blk_new w _) _
    · have h := MapIs.made (w.alloc (.cells (c.cells ⟨A1, c1, A2, c2, A3, c3, A4, c4⟩) 31)) Value.string (Value.int .i64)
      have h' : MapIs ((w.alloc (.cells (c.cells ⟨A1, c1, A2, c2, A3, c3, A4, c4⟩) 31)).alloc (.map #[] 0)) (w.heap.size + 1) Value.string (Value.int .i64) ([] : List (ByteArray × Int)) := by simpa using h
      rw [List.drop_length]
      exact h'
  case round =>
    obtain ⟨k, i0, hk, hgk, rfl, HI, BK, HM, HB⟩ := hrel
    have q1 : wr.cell? ⟨w.heap.size, 1, none⟩ = some (.slice A1 c.sv.length c1) := (blk_cell BK.out 1).trans rfl
    cases k with
    | zero =>
      obtain rfl : i0 = -1 := by have := HI.out; omega
      obtain ⟨ad, A5, c5, e, h0, _⟩ := at_T64 HR.out 0 (by omega) (by omega)
      subst e
      rw [show ad.add ((0 : Int).toNat * 6) = ad from by simp [Addr.add]] at h0
      replace h0 := (HB.out.cell (World.block_lt_of_cell? w _ h0)).trans h0
      have EO : Aside0 (cntOf c.sv = cntName (cntMap (c.sv.drop 0)) (rd_T64 c.sv 0).f0) := ⟨rfl⟩
      go_wp2_with (first | (at_lookup; go_loud (refine wp_look rfl _ _ rfl Try.underlying144 Try.underlying9 enc_string HM.out rfl _ rfl (zero3 _) ?_); go_loud (rw [match_int])))
      go_ret
      exact ⟨by rw [EO.out]; rfl, HB.out⟩
    | succ j =>
      obtain rfl : i0 = (j : Int) := by have := HI.out; omega
      obtain ⟨ad, A5, c5, e, h0, _, _, _, _, h5, l5, k5⟩ := at_T64 HR.out (j : Int) (by omega) (by omega)
      subst e
      rw [rd_T64_get c.sv j (by omega)] at h0 h5 l5 k5
      simp only [Int.toNat_natCast] at h0 h5
      replace h0 := (HB.out.cell (World.block_lt_of_cell? w _ h0)).trans h0
      replace h5 := (HB.out.cell (World.block_lt_of_cell? w _ h5)).trans h5
      have K5 := Aside0.mk (Kd.C_below k5 HB.out)
      have n5 : c.sv[j].f5.length ≤ 9223372036854775807 := k5.2.1
      clear k5
      have hj1 : (j : Int) < (c.sv.length : Int) := by omega
      have HS := Aside0.mk (cntMap_step c.sv j (by omega))
      generalize hx : c.sv[j] = x at h0 h5 l5 K5 n5 HS
      clear hx
      generalize hM : cntMap (c.sv.drop (j + 1)) = M at HM HS
      clear hM
      go_wp2_with (first | (at_lookup; refine wp_look rfl _ _ rfl Try.underlying144 Try.underlying9 enc_string HM.out rfl _ rfl (zero3 _) ?_; rw [match_int]))
      obtain ⟨wo, rfl⟩ : ∃ wo : World, wo = wr := ⟨_, rfl⟩
      go_loopg [5, 24] x.f5.length (fun gg s5 s24 w2 => ∃ (i : Nat) (acc : Int), i ≤ x.f5.length ∧ x.f5.length - i ≤ gg ∧ s24 = .int .i64 i ∧ s5 = .int .i64 acc ∧ Aside0 (cntSum M (x.f5.drop i) acc = cntSum M x.f5 1) ∧ Aside0 (w2.heap[w.heap.size]? = some (.cells (c.cells ⟨some ad, c1, A2, c2, A3, c3, A4, c4⟩) 31 (0, 0))) ∧ Aside0 (MapIs w2 (w.heap.size + 1) Value.string (Value.int .i64) M) ∧ Aside0 (Below w.heap.size w w2) ∧ Aside0 (Below wo.heap.size wo w2))
      case atStart => exact ⟨0, 1, Nat.zero_le _, by omega, by rfl, rfl, ⟨rfl⟩, BK, HM, HB, ⟨Below.refl _ _⟩⟩
      case round =>
        clear BK HM HB q1
        obtain ⟨i, acc, hi, hgi, rfl, rfl, HA, BK, HM, HB, HW⟩ := hrel
        have q1 : wr.cell? ⟨w.heap.size, 1, none⟩ = some (.slice (some ad) c.sv.length c1) := (blk_cell BK.out 1).trans rfl
        replace h0 := (HW.out.cell (World.block_lt_of_cell? wo _ h0)).trans h0
        replace h5 := (HW.out.cell (World.block_lt_of_cell? wo _ h5)).trans h5
        by_cases hlt : i < x.f5.length
        · have hil : (i : Int) < (x.f5.length : Int) := by omega
          obtain ⟨ad5, e5, g5⟩ := string_at K5.out i hlt
          subst e5
          replace g5 := (HW.out.cell (World.block_lt_of_cell? wo _ g5)).trans g5
          have HT := Aside0.mk (cntSum_step M x.f5 acc i hlt)
          generalize x.f5[i] = nm at g5 HT
          go_wp2_with (first | (at_lookup; refine wp_look rfl _ _ rfl Try.underlying144 Try.underlying9 enc_string HM.out rfl _ rfl (zero3 _) ?_; rw [match_int]))
          go_roundg (x.f5.length - (i + 1))
          case measure => omega
          case rel => exact ⟨i + 1, wrap64 (acc + wrap64 (1 + cntName M nm)), by omega, Nat.le_refl _, by go_num, rfl, ⟨HT.out.symm.trans HA.out⟩, BK, HM, HB, HW⟩
        · obtain rfl : i = x.f5.length := by omega
          have hacc : Aside0 (acc = cntSum M x.f5 1) := ⟨by have := HA.out; rwa [List.drop_length] at this⟩
          go_wp2_with (first | (at_mapUpdate; refine wp_store rfl _ _ _ rfl Try.underlying144 Try.underlying9 enc_string HM.out rfl _ _ rfl rfl ?_; intro w3 hm3 hg3))
          go_roundg j
          case measure => omega
          case rel =>
            refine ⟨j, (j : Int) - 1, by omega, Nat.le_refl _, by rfl, ⟨rfl⟩, ⟨blk_grown BK.out hg3 (by simp)⟩, ⟨?_⟩, ⟨HB.out.grown hg3 HB.out.size (fun z hz => by simp at hz; omega)⟩⟩
            rw [HS.out, ← hacc.out]
            exact hm3
end Go.Proofs.Ytdadnapfecmmdaa.P
