/- Own walk over simulate.Check: five checks one behind the other. -/
import Derived.Test.YtdadnapfecmmdaaPF53
import Derived.Test.YtdadnapfecmmdaaPF54
import Derived.Test.YtdadnapfecmmdaaPF56
import Derived.Test.YtdadnapfecmmdaaPF57
import Derived.Test.YtdadnapfecmmdaaPF52
import Derived.Test.YtdadnapfecmmdaaHe
import Derived.Test.YtdadnapfecmmdaaHb
import Derived.Laws.EntriesVeiled
namespace Go.Proofs.Ytdadnapfecmmdaa.P
set_option linter.unusedVariables false
set_option linter.unusedSimpArgs false
open Go.RowKit Go.Proofs.YtdadnapfecmmdaaW.PrintWords Go.Proofs.YtdadnapfecmmdaaW.PrintLast Go.Proofs.YtdadnapfecmmdaaW.PrintMore
def ckS (k : Nat) (c : Cfg) : Option Int := simulate_Config_checkServices.f k c.seed c.sv c.off c.ch c.fl c.sfrom c.sto c.per c.delay c.chunk c.loss c.rep
def ckO (k : Nat) (c : Cfg) : Option Int := simulate_Config_checkOffsets.f k c.seed c.sv c.off c.ch c.fl c.sfrom c.sto c.per c.delay c.chunk c.loss c.rep
def ckF (k : Nat) (c : Cfg) : Option Int := simulate_Config_checkFaults.f k c.seed c.sv c.off c.ch c.fl c.sfrom c.sto c.per c.delay c.chunk c.loss c.rep
def ckR (k : Nat) (c : Cfg) : Option Int := simulate_Config_checkRest.f k c.seed c.sv c.off c.ch c.fl c.sfrom c.sto c.per c.delay c.chunk c.loss c.rep
theorem ckS_calls (k : Nat) (c : Cfg) (p : CfgAt) (r : Int) (w : World) (hR : CfgR w p c) (h : ckS k c = some r) : Calls Try.prog 53 #[c.val p] w fun e w' => e = .returned (.int .i64 r) ∧ Below w.heap.size w w' :=
  simulate_Config_checkServices.calls k _ _ _ _ _ _ _ _ _ _ _ _ _ _ _ _ _ _ _ _ r w hR.r1 hR.l1 hR.r2 hR.l2 hR.r3 hR.l3 hR.r4 hR.l4 h
theorem ckO_calls (k : Nat) (c : Cfg) (p : CfgAt) (r : Int) (w : World) (hR : CfgR w p c) (h : ckO k c = some r) : Calls Try.prog 54 #[c.val p] w fun e w' => e = .returned (.int .i64 r) ∧ Below w.heap.size w w' :=
  simulate_Config_checkOffsets.calls k _ _ _ _ _ _ _ _ _ _ _ _ _ _ _ _ _ _ _ _ r w hR.r1 hR.l1 hR.r2 hR.l2 hR.r3 hR.l3 hR.r4 hR.l4 h
theorem ckF_calls (k : Nat) (c : Cfg) (p : CfgAt) (r : Int) (w : World) (hR : CfgR w p c) (h : ckF k c = some r) : Calls Try.prog 56 #[c.val p] w fun e w' => e = .returned (.int .i64 r) ∧ Below w.heap.size w w' :=
  simulate_Config_checkFaults.calls k _ _ _ _ _ _ _ _ _ _ _ _ _ _ _ _ _ _ _ _ r w hR.r1 hR.l1 hR.r2 hR.l2 hR.r3 hR.l3 hR.r4 hR.l4 h
theorem ckR_calls (k : Nat) (c : Cfg) (p : CfgAt) (r : Int) (w : World) (hR : CfgR w p c) (h : ckR k c = some r) : Calls Try.prog 57 #[c.val p] w fun e w' => e = .returned (.int .i64 r) ∧ Below w.heap.size w w' :=
  simulate_Config_checkRest.calls k _ _ _ _ _ _ _ _ _ _ _ _ _ _ _ _ _ _ _ _ r w hR.r1 hR.l1 hR.r2 hR.l2 hR.r3 hR.l3 hR.r4 hR.l4 h
/-- The closure that asks deployment.Check; what it captures is the configuration's box. -/
theorem ckD_calls (c : Cfg) (p : CfgAt) (g : Nat) (w : World) (hR : CfgR w p c) (hg : w.heap[g]? = some (.cells (c.cells p) 31 (0, 0))) :
    Calls Try.prog 55 #[.pointer (some ⟨g, 0, none⟩)] w fun e w' => e = .returned (.int .i64 (depCheck c.ch)) ∧ Below w.heap.size w w' := by
  have q3 : w.cell? ⟨g, 3, none⟩ = some (.slice p.A3 c.ch.length p.c3) := (blk_cell hg 3).trans rfl
  have HC := Aside0.mk (depCheck_calls p.A3 p.c3 c.ch w hR.r3)
  clear hR hg
  generalize depCheck c.ch = r at HC
  go_enter Try.func55, Try.ntmps55
  go_wp2_with (go_at_call 50; refine HC.out.mono ?_; rintro e w1 ⟨rfl, hb1⟩)
  go_ret
  exact ⟨rfl, hb1⟩
theorem outside_calls (n a b : Int) (w : World) : Calls Try.prog 52 #[.int .i64 n, .int .i64 a, .int .i64 b] w fun e w' => e = .returned (.bool (decide (n < a ∨ b < n))) ∧ Drawn0 w w' := by
  refine simulate_outside.calls n a b _ w ?_
  unfold simulate_outside.f
  by_cases h : n < a
  · simp [h]
  · simp [h]
def ckAt (k : Nat) (c : Cfg) : Nat → Option Int
  | 0 => ckS k c
  | 1 => ckO k c
  | 2 => some (depCheck c.ch)
  | 3 => ckF k c
  | 4 => ckR k c
  | _ => some 0
def ckFrom (k : Nat) (c : Cfg) : Nat → Option Int
  | 0 => some 0
  | n + 1 => (ckAt k c (4 - n)).bind fun e => if e = 0 then ckFrom k c n else some e
def ckAll (k : Nat) (c : Cfg) : Option Int :=
  if c.seed < 0 ∨ 1048576 < c.seed then some 2 else if c.sv.length = 0 then some 7 else if 16 < c.sv.length ∨ 16 < c.fl.length then some 6 else ckFrom k c 5
theorem ckAt_mono (k : Nat) (c : Cfg) : ∀ i, LeO (ckAt k c i) (ckAt (k + 1) c i)
  | 0 => simulate_Config_checkServices.mono _ _ _ _ _ _ _ _ _ _ _ _ k
  | 1 => simulate_Config_checkOffsets.mono _ _ _ _ _ _ _ _ _ _ _ _ k
  | 2 => LeO.refl _
  | 3 => simulate_Config_checkFaults.mono _ _ _ _ _ _ _ _ _ _ _ _ k
  | 4 => simulate_Config_checkRest.mono _ _ _ _ _ _ _ _ _ _ _ _ k
  | _ + 5 => LeO.refl _
theorem ckFrom_mono (k : Nat) (c : Cfg) : ∀ n, LeO (ckFrom k c n) (ckFrom (k + 1) c n)
  | 0 => LeO.refl _
  | n + 1 => by
    unfold ckFrom
    exact LeO.bind (ckAt_mono k c _) (fun _ => LeO.ite (ckFrom_mono k c n) (LeO.refl _))
theorem ckAll_mono (k : Nat) (c : Cfg) : LeO (ckAll k c) (ckAll (k + 1) c) :=
  LeO.ite (LeO.refl _) (LeO.ite (LeO.refl _) (LeO.ite (LeO.refl _) (ckFrom_mono k c 5)))
set_option maxHeartbeats 4000000 in
set_option maxRecDepth 100000 in
theorem check_calls (k : Nat) (c : Cfg) (p : CfgAt) (r : Int) (w : World) (hR : CfgR w p c) (h : ckAll k c = some r) :
    Calls Try.prog 27 #[c.val p] w fun e w' => e = .returned (.int .i64 r) ∧ Below w.heap.size w w' := by
  have HR := Aside0.mk hR
  clear hR
  unfold ckAll at h
  by_cases h1 : c.seed < 0 ∨ 1048576 < c.seed
  · rw [if_pos h1] at h
    obtain rfl := Option.some.inj h
    have k1 : decide (c.seed < 0 ∨ 1048576 < c.seed) = true := by simpa using h1
    clear h h1
    go_enter Try.func27, Try.ntmps27
    go_wp2_with (go_at_call 52; refine (outside_calls _ _ _ _).mono ?_; rintro e w1 ⟨rfl, ⟨nd, rfl⟩⟩)
    go_ret
    exact ⟨rfl, pw_below_drewN (below_alloc (Below.refl _ _) _) _⟩
  · rw [if_neg h1] at h
    have k1 : decide (c.seed < 0 ∨ 1048576 < c.seed) = false := by simpa using h1
    clear h1
    by_cases h2 : c.sv.length = 0
    · rw [if_pos h2] at h
      obtain rfl := Option.some.inj h
      have k2 : ((c.sv.length : Int) == 0) = true := by simpa using h2
      clear h h2
      go_enter Try.func27, Try.ntmps27
      go_wp2_with (go_at_call 52; refine (outside_calls _ _ _ _).mono ?_; rintro e w1 ⟨rfl, ⟨nd, rfl⟩⟩)
      go_ret
      exact ⟨rfl, pw_below_drewN (below_alloc (Below.refl _ _) _) _⟩
    · rw [if_neg h2] at h
      have k2 : ((c.sv.length : Int) == 0) = false := by simpa using h2
      clear h2
      by_cases h3 : 16 < c.sv.length
      · rw [if_pos (.inl h3)] at h
        obtain rfl := Option.some.inj h
        have k3 : decide ((16 : Int) < (c.sv.length : Int)) = true := by simp; omega
        clear h h3
        go_enter Try.func27, Try.ntmps27
        go_wp2_with (go_at_call 52; refine (outside_calls _ _ _ _).mono ?_; rintro e w1 ⟨rfl, ⟨nd, rfl⟩⟩)
        go_ret
        exact ⟨rfl, pw_below_drewN (below_alloc (Below.refl _ _) _) _⟩
      · by_cases h4 : 16 < c.fl.length
        · rw [if_pos (.inr h4)] at h
          obtain rfl := Option.some.inj h
          have k3 : decide ((16 : Int) < (c.sv.length : Int)) = false := by simp; omega
          have k4 : decide ((16 : Int) < (c.fl.length : Int)) = true := by simp; omega
          clear h h3 h4
          go_enter Try.func27, Try.ntmps27
          go_wp2_with (go_at_call 52; refine (outside_calls _ _ _ _).mono ?_; rintro e w1 ⟨rfl, ⟨nd, rfl⟩⟩)
          go_ret
          exact ⟨rfl, pw_below_drewN (below_alloc (Below.refl _ _) _) _⟩
        · rw [if_neg (fun h => by rcases h with h | h; exact h3 h; exact h4 h)] at h
          have k3 : decide ((16 : Int) < (c.sv.length : Int)) = false := by simp; omega
          have k4 : decide ((16 : Int) < (c.fl.length : Int)) = false := by simp; omega
          clear h3 h4
          have HA := Aside0.mk h
          clear h
          go_enter Try.func27, Try.ntmps27
          go_wp2_with (go_at_call 52; refine (outside_calls _ _ _ _).mono ?_; rintro e w1 ⟨rfl, ⟨nd, rfl⟩⟩)
          have x0 : ∀ (a b c d e : Value) (W : World), (Instr.index 119 (.agg #[a, b, c, d, e]) (.int .i64 0)).run Try.prog W = .ok a W := fun _ _ _ _ _ _ => by kernel_rfl
          have x1 : ∀ (a b c d e : Value) (W : World), (Instr.index 119 (.agg #[a, b, c, d, e]) (.int .i64 1)).run Try.prog W = .ok b W := fun _ _ _ _ _ _ => by kernel_rfl
          have x2 : ∀ (a b c d e : Value) (W : World), (Instr.index 119 (.agg #[a, b, c, d, e]) (.int .i64 2)).run Try.prog W = .ok c W := fun _ _ _ _ _ _ => by kernel_rfl
          have x3 : ∀ (a b c d e : Value) (W : World), (Instr.index 119 (.agg #[a, b, c, d, e]) (.int .i64 3)).run Try.prog W = .ok d W := fun _ _ _ _ _ _ => by kernel_rfl
          have x4 : ∀ (a b c d e : Value) (W : World), (Instr.index 119 (.agg #[a, b, c, d, e]) (.int .i64 4)).run Try.prog W = .ok e W := fun _ _ _ _ _ _ => by kernel_rfl
          go_loopg [38] 5 (fun gg s38 wr => ∃ (i : Nat), i ≤ 5 ∧ 5 - i ≤ gg ∧ s38 = .int .i64 i ∧ Aside0 (ckFrom k c (5 - i) = some r) ∧ Aside0 (wr.heap[w.heap.size]? = some (.cells (c.cells p) 31 (0, 0))) ∧ Aside0 (Below w.heap.size w wr))
          case atStart =>
            refine ⟨0, by omega, by omega, by rfl, HA, ⟨?_⟩, ⟨?_⟩⟩
            · repeat (first | (with_reducible exact blk_new w _) | (with_reducible refine blk_drewN ?_ _) | (with_reducible refine blk_drew ?_) | (with_reducible refine blk_alloc ?_ _))
            · repeat (first | exact Below.refl _ _ | apply below_alloc | apply pw_below_drewN)
          case round =>
            clear HA
            obtain ⟨i, hi, hgi, rfl, HA, BK, HB⟩ := hrel
            by_cases hlt : i < 5
            · match i, hlt with
              | 0, _ =>
                have hA := HA.out
                clear HA
                replace hA : ((ckAt k c 0).bind fun e => if e = 0 then ckFrom k c 4 else some e) = some r := hA
                obtain ⟨e0, E0_, hA⟩ := Option.bind_eq_some_iff.mp hA
                have E0 := Aside0.mk E0_
                clear E0_
                go_wp2_with fail
                refine (ckS_calls k c p e0 _ (HR.out.below HB.out) E0.out).mono ?_
                rintro e w1 ⟨rfl, hb1⟩
                by_cases he : e0 = 0
                · rw [if_pos he] at hA
                  have HA' := Aside0.mk hA
                  have heb : (e0 != 0) = false := by simpa using he
                  clear hA he
                  go_wp2_with fail
                  go_roundg (5 - (0 + 1))
                  case measure => omega
                  case rel => exact ⟨0 + 1, by omega, by omega, by rfl, HA', ⟨blk_below BK.out hb1⟩, ⟨below_step HB.out hb1⟩⟩
                · rw [if_neg he] at hA
                  obtain rfl := Option.some.inj hA
                  have heb : (e0 != 0) = true := by simpa using he
                  clear hA he
                  go_wp2_with fail
                  go_ret
                  exact ⟨by rfl, below_step HB.out hb1⟩
              | 1, _ =>
                have hA := HA.out
                clear HA
                replace hA : ((ckAt k c 1).bind fun e => if e = 0 then ckFrom k c 3 else some e) = some r := hA
                obtain ⟨e1, E0_, hA⟩ := Option.bind_eq_some_iff.mp hA
                have E1 := Aside0.mk E0_
                clear E0_
                go_wp2_with fail
                refine (ckO_calls k c p e1 _ (HR.out.below HB.out) E1.out).mono ?_
                rintro e w1 ⟨rfl, hb1⟩
                by_cases he : e1 = 0
                · rw [if_pos he] at hA
                  have HA' := Aside0.mk hA
                  have heb : (e1 != 0) = false := by simpa using he
                  clear hA he
                  go_wp2_with fail
                  go_roundg (5 - (1 + 1))
                  case measure => omega
                  case rel => exact ⟨1 + 1, by omega, by omega, by rfl, HA', ⟨blk_below BK.out hb1⟩, ⟨below_step HB.out hb1⟩⟩
                · rw [if_neg he] at hA
                  obtain rfl := Option.some.inj hA
                  have heb : (e1 != 0) = true := by simpa using he
                  clear hA he
                  go_wp2_with fail
                  go_ret
                  exact ⟨by rfl, below_step HB.out hb1⟩
              | 2, _ =>
                have hA := HA.out
                clear HA
                replace hA : (if depCheck c.ch = 0 then ckFrom k c 2 else some (depCheck c.ch)) = some r := hA
                have HC := Aside0.mk (ckD_calls c p w.heap.size wr (HR.out.below HB.out) BK.out)
                generalize depCheck c.ch = e2 at hA HC
                go_wp2_with fail
                refine (HC.out).mono ?_
                rintro e w1 ⟨rfl, hb1⟩
                by_cases he : e2 = 0
                · rw [if_pos he] at hA
                  have HA' := Aside0.mk hA
                  have heb : (e2 != 0) = false := by simpa using he
                  clear hA he
                  go_wp2_with fail
                  go_roundg (5 - (2 + 1))
                  case measure => omega
                  case rel => exact ⟨2 + 1, by omega, by omega, by rfl, HA', ⟨blk_below BK.out hb1⟩, ⟨below_step HB.out hb1⟩⟩
                · rw [if_neg he] at hA
                  obtain rfl := Option.some.inj hA
                  have heb : (e2 != 0) = true := by simpa using he
                  clear hA he
                  go_wp2_with fail
                  go_ret
                  exact ⟨by rfl, below_step HB.out hb1⟩
              | 3, _ =>
                have hA := HA.out
                clear HA
                replace hA : ((ckAt k c 3).bind fun e => if e = 0 then ckFrom k c 1 else some e) = some r := hA
                obtain ⟨e3, E0_, hA⟩ := Option.bind_eq_some_iff.mp hA
                have E3 := Aside0.mk E0_
                clear E0_
                go_wp2_with fail
                refine (ckF_calls k c p e3 _ (HR.out.below HB.out) E3.out).mono ?_
                rintro e w1 ⟨rfl, hb1⟩
                by_cases he : e3 = 0
                · rw [if_pos he] at hA
                  have HA' := Aside0.mk hA
                  have heb : (e3 != 0) = false := by simpa using he
                  clear hA he
                  go_wp2_with fail
                  go_roundg (5 - (3 + 1))
                  case measure => omega
                  case rel => exact ⟨3 + 1, by omega, by omega, by rfl, HA', ⟨blk_below BK.out hb1⟩, ⟨below_step HB.out hb1⟩⟩
                · rw [if_neg he] at hA
                  obtain rfl := Option.some.inj hA
                  have heb : (e3 != 0) = true := by simpa using he
                  clear hA he
                  go_wp2_with fail
                  go_ret
                  exact ⟨by rfl, below_step HB.out hb1⟩
              | 4, _ =>
                have hA := HA.out
                clear HA
                replace hA : ((ckAt k c 4).bind fun e => if e = 0 then ckFrom k c 0 else some e) = some r := hA
                obtain ⟨e4, E0_, hA⟩ := Option.bind_eq_some_iff.mp hA
                have E4 := Aside0.mk E0_
                clear E0_
                go_wp2_with fail
                refine (ckR_calls k c p e4 _ (HR.out.below HB.out) E4.out).mono ?_
                rintro e w1 ⟨rfl, hb1⟩
                by_cases he : e4 = 0
                · rw [if_pos he] at hA
                  have HA' := Aside0.mk hA
                  have heb : (e4 != 0) = false := by simpa using he
                  clear hA he
                  go_wp2_with fail
                  go_roundg (5 - (4 + 1))
                  case measure => omega
                  case rel => exact ⟨4 + 1, by omega, by omega, by rfl, HA', ⟨blk_below BK.out hb1⟩, ⟨below_step HB.out hb1⟩⟩
                · rw [if_neg he] at hA
                  obtain rfl := Option.some.inj hA
                  have heb : (e4 != 0) = true := by simpa using he
                  clear hA he
                  go_wp2_with fail
                  go_ret
                  exact ⟨by rfl, below_step HB.out hb1⟩
            · obtain rfl : i = 5 := by omega
              have hA : some 0 = some r := HA.out
              obtain rfl := Option.some.inj hA
              clear HA hA
              go_wp2_with fail
              go_ret
              exact ⟨by rfl, HB.out⟩
end Go.Proofs.Ytdadnapfecmmdaa.P
