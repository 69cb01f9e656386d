/- Own texts of a proof about layer 55's simulate (merged): Mf. -/
import Derived.Test.YtdadnapfecmmdaaYc15
import Derived.Test.YtdadnapfecmmdaaYc2
import Derived.Test.YtdadnapfecmmdaaYc8
namespace Go.Proofs.Ytdadnapfecmmdaa.P
set_option linter.unusedVariables false
set_option linter.unusedSimpArgs false
open Go.RowKit Go.Proofs.YtdadnapfecmmdaaW.PrintWords Go.Proofs.YtdadnapfecmmdaaW.PrintLast Go.Proofs.YtdadnapfecmmdaaW.PrintMore
open Go.Proofs.Ytdadnapfecmmdaa.Hm
theorem moffset_calls (c : Cfg) (p : CfgAt) (clock : Int) (w : World) (hR : CfgR w p c) : Calls Try.prog 30 #[c.val p, .int .i64 clock] w fun e w' => e = .returned (.tuple #[.int .i64 (offOf c.off clock).1, .bool (offOf c.off clock).2]) ∧ Below w.heap.size w w' := by
  obtain ⟨A1, c1, A2, c2, A3, c3, A4, c4⟩ := p
  have HR := Aside0.mk hR.r2
  have hn : c.off.length ≤ 9223372036854775807 := hR.r2.2.1
  have HX0 := Aside0.mk (blk_new w (.cells (c.cells ⟨A1, c1, A2, c2, A3, c3, A4, c4⟩) 31))
  have HB0 := Aside0.mk (below_alloc (Below.refl w.heap.size w) (.cells (c.cells ⟨A1, c1, A2, c2, A3, c3, A4, c4⟩) 31))
  clear hR
  go_enter Try.func30, Try.ntmps30
  go_wp2_with fail
  go_loopg [6] c.off.length (fun gg s6 wr => ∃ i : Nat, i ≤ c.off.length ∧ c.off.length - i ≤ gg ∧ s6 = .int .i64 (i : Int) ∧ Aside0 (wr.heap[w.heap.size]? = some (.cells (c.cells ⟨A1, c1, A2, c2, A3, c3, A4, c4⟩) 31 (0, 0))) ∧ Aside0 (Below w.heap.size w wr) ∧ Aside0 (∀ j (_ : j < i) (hj : j < c.off.length), (c.off[j].f0 == clock) = false))
  case atStart => exact ⟨0, Nat.zero_le _, by omega, rfl, HX0, HB0, ⟨fun j hj => absurd hj (Nat.not_lt_zero _)⟩⟩
  case round =>
  clear HX0 HB0
  obtain ⟨i, hi, hgi, rfl, HX, HB, AN⟩ := hrel
  have q1 : wr.cell? ⟨w.heap.size, 2, none⟩ = some (.slice A2 c.off.length c2) := (blk_cell HX.out 2).trans rfl
  by_cases hlt : i < c.off.length
  · obtain ⟨ad, e, h0, h1⟩ := at_T91 HR.out (i : Int) (by omega) (by omega)
    subst e
    have hrd : rd_T91 c.off (i : Int) = c.off[i] := by unfold rd_T91; simp [List.getD_eq_getElem?_getD, hlt]
    rw [hrd] at h0 h1
    simp only [Int.toNat_natCast] at h0 h1
    replace h0 := (HB.out.cell (World.block_lt_of_cell? w _ h0)).trans h0
    replace h1 := (HB.out.cell (World.block_lt_of_cell? w _ h1)).trans h1
    have hltz : (i : Int) < (c.off.length : Int) := by omega
    by_cases hq : c.off[i].f0 = clock
    · have hq2 : (c.off[i].f0 == clock) = true := by simp [hq]
      have hq3 := eq_true hq
      have e : offIdx c.off clock = (i : Int) := idxBy_hit (fun x : S91 => x.f0 == clock) c.off i hlt hq2 (fun j hj => AN.out j hj (by omega))
      have ho : offOf c.off clock = (c.off[i].f1, true) := by
        unfold offOf
        rw [e, if_neg (by omega), hrd]
      generalize c.off[i] = y at h0 h1 hq hq2 hq3 ho
      have HOF := Aside0.mk ho
      clear ho e hrd hq
      go_wp2_with fail
      go_returns
      exact ⟨by rw [HOF.out]; rfl, HB.out⟩
    · have hq2 : (c.off[i].f0 == clock) = false := by simpa using hq
      have AN' : Aside0 (∀ j (_ : j < i + 1) (hj : j < c.off.length), (c.off[j].f0 == clock) = false) := ⟨fun j hj hjl => by
        by_cases hjk : j < i
        · exact AN.out j hjk hjl
        · obtain rfl : j = i := by omega
          exact hq2⟩
      have hq3 := eq_false hq
      generalize c.off[i] = y at h0 h1 hq hq2 hq3
      clear hrd hq
      go_wp2_with fail
      go_roundg (c.off.length - (i + 1))
      case rel => exact ⟨i + 1, by omega, Nat.le_refl _, by first | rfl | go_num, HX, HB, AN'⟩
      case measure => omega
  · obtain rfl : i = c.off.length := by omega
    have e : offIdx c.off clock = -1 := idxBy_none (fun x : S91 => x.f0 == clock) c.off (fun j hj => AN.out j hj hj)
    have ho : offOf c.off clock = (0, false) := by
      unfold offOf
      rw [e, if_pos (by omega)]
    have HOF := Aside0.mk ho
    clear ho e
    go_wp2_with fail
    go_returns
    exact ⟨by rw [HOF.out]; rfl, HB.out⟩
end Go.Proofs.Ytdadnapfecmmdaa.P
