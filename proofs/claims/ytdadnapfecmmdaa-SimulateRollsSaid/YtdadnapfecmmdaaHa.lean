/- Own walks over the simulate package: the clock's offset. -/
import Derived.Test.YtdadnapfecmmdaaP0
namespace Go.Proofs.Ytdadnapfecmmdaa.P
set_option linter.unusedVariables false
set_option linter.unusedSimpArgs false
open Go.RowKit Go.Proofs.YtdadnapfecmmdaaW.PrintWords Go.Proofs.YtdadnapfecmmdaaW.PrintLast Go.Proofs.YtdadnapfecmmdaaW.PrintMore

/-- The first place at which p holds, or -1. -/
def idxBy {α : Type} (p : α → Bool) (l : List α) : Int := match l.findIdx? p with | some i => (i : Int) | none => -1

theorem idxBy_hit {α : Type} (p : α → Bool) (l : List α) (k : Nat) (hk : k < l.length) (h : p l[k] = true) (hn : ∀ j (hj : j < k), p (l[j]'(by omega)) = false) : idxBy p l = (k : Int) := by
  unfold idxBy
  have : l.findIdx? p = some k := by
    rw [List.findIdx?_eq_some_iff_getElem]
    exact ⟨hk, h, fun j hj => by rw [hn j hj]; simp⟩
  rw [this]
theorem idxBy_none {α : Type} (p : α → Bool) (l : List α) (hn : ∀ j (hj : j < l.length), p l[j] = false) : idxBy p l = -1 := by
  unfold idxBy
  have : l.findIdx? p = none := by
    rw [List.findIdx?_eq_none_iff]
    intro x hx
    obtain ⟨j, hj, rfl⟩ := List.getElem_of_mem hx
    exact hn j hj
  rw [this]

theorem off1_calls (x : S91) (clock : Int) (a : Addr) (w : World) (hc : w.cell? a = some (.int .i64 clock)) :
    Calls Try.prog 70 #[.agg #[.int .i64 x.f0, .int .i64 x.f1], .pointer (some a)] w fun e w' => e = .returned (.bool (x.f0 == clock)) ∧ Below w.heap.size w w' := by
  have hlt := World.block_lt_of_cell? w a hc
  have hne : a.block ≠ w.heap.size := by omega
  obtain ⟨f0, f1⟩ := x
  dsimp only
  go_enter Try.func70, Try.ntmps70
  go_wp2
  all_goals (go_ret; exact ⟨by simp_all, (Below.refl _ _).alloc (Nat.le_refl _) _⟩)

theorem rd_T91_get (xs : List S91) (k : Nat) (h : k < xs.length) : rd_T91 xs (k : Int) = xs[k] := by
  unfold rd_T91; simp [List.getD_eq_getElem?_getD, h]

set_option maxHeartbeats 1000000 in
/-- slices.IndexFunc over offsets, whatever the predicate. -/
theorem idx69_calls (A : Option Addr) (c : Nat) (l : List S91) (g : Nat) (lb : Array Value) (p : S91 → Bool) (w : World) (_hl : l.length ≤ c) (hr : Kd.C k91 w A l.length l)
    (eg : ∀ args w, (callFunc g args).run Try.prog w = .ok (.enter g args) w)
    (hp : ∀ (W : World) (x : S91), Below w.heap.size w W → Calls Try.prog g (#[.agg #[.int .i64 x.f0, .int .i64 x.f1]] ++ lb) W fun e w' => e = .returned (.bool (p x)) ∧ Below W.heap.size W w') :
    Calls Try.prog 69 #[.slice A l.length c, .func (.func g) #[] lb] w fun e w' => e = .returned (.int .i64 (idxBy p l)) ∧ Below w.heap.size w w' := by
  have hbig : l.length ≤ 9223372036854775807 := hr.2.1
  have HR := Aside0.mk hr
  have HP := Aside0.mk hp
  clear hp hr
  go_enter Try.func69, Try.ntmps69
  go_wp2
  go_loopg [5, 8] l.length (fun gg _ s8 wr => ∃ kk : Nat, kk ≤ l.length ∧ l.length - kk ≤ gg ∧ s8 = .int .i64 kk ∧ Aside0 (Below w.heap.size w wr) ∧ Aside0 (∀ j (_ : j < kk) (hj : j < l.length), p (l[j]) = false))
  case atStart => exact ⟨0, Nat.zero_le _, by omega, rfl, ⟨Below.refl _ w⟩, ⟨fun j hj => absurd hj (Nat.not_lt_zero _)⟩⟩
  case round =>
    obtain ⟨kk, hkk, hg, rfl, BW, AN⟩ := hrel
    by_cases hlt : kk < l.length
    · obtain ⟨ad, e, h0, h1⟩ := at_T91 HR.out (kk : Int) (by omega) (by omega)
      subst e
      rw [rd_T91_get l kk hlt] at h0 h1
      simp only [Int.toNat_natCast] at h0 h1
      have hcall := HP.out wr l[kk] BW.out
      replace h0 := (BW.out.cell (World.block_lt_of_cell? w _ h0)).trans h0
      replace h1 := (BW.out.cell (World.block_lt_of_cell? w _ h1)).trans h1
      have hltz : (kk : Int) < (l.length : Int) := by omega
      generalize hy : l[kk] = y at h0 h1 hcall
      have B := Aside0.mk hy
      clear hy
      cases hq : p y with
      | true =>
        rw [hq] at hcall
        go_wp2_with fail
        refine hcall.mono ?_
        rintro e w' ⟨rfl, hb'⟩
        go_wp2_with fail
        go_ret
        refine ⟨?_, below_step BW.out hb'⟩
        rw [idxBy_hit p l kk hlt (by rw [B.out]; exact hq) (fun j hj => AN.out j hj (by omega))]
        rfl
      | false =>
        rw [hq] at hcall
        go_wp2_with fail
        refine hcall.mono ?_
        rintro e w' ⟨rfl, hb'⟩
        go_wp2_with fail
        go_roundg (l.length - (kk + 1))
        case rel => exact ⟨kk + 1, by omega, Nat.le_refl _, by go_num, ⟨below_step BW.out hb'⟩, ⟨fun j hj hjl => by
          by_cases hjk : j < kk
          · exact AN.out j hjk hjl
          · obtain rfl : j = kk := by omega
            rw [B.out]; exact hq⟩⟩
        case measure => omega
    · obtain rfl : kk = l.length := by omega
      go_wp2
      go_ret
      exact ⟨by rw [idxBy_none p l (fun j hj => AN.out j hj hj)]; rfl, BW.out⟩

/-- A configuration, as data. -/
structure Cfg where
  seed : Int
  sv : List S64
  off : List S91
  ch : List S100
  fl : List S61
  sfrom : Int
  sto : Int
  per : Int
  delay : Int
  chunk : Int
  loss : Int
  rep : Int
/-- Where its lists lie. -/
structure CfgAt where
  A1 : Option Addr
  c1 : Nat
  A2 : Option Addr
  c2 : Nat
  A3 : Option Addr
  c3 : Nat
  A4 : Option Addr
  c4 : Nat
abbrev Cfg.val (c : Cfg) (p : CfgAt) : Value := .agg #[.int .i64 c.seed, .slice p.A1 c.sv.length p.c1, .slice p.A2 c.off.length p.c2, .slice p.A3 c.ch.length p.c3, .slice p.A4 c.fl.length p.c4, .int .i64 c.sfrom, .int .i64 c.sto, .int .i64 c.per, .int .i64 c.delay, .int .i64 c.chunk, .int .i64 c.loss, .int .i64 c.rep]
structure CfgR (w : World) (p : CfgAt) (c : Cfg) : Prop where
  r1 : Kd.C k64 w p.A1 c.sv.length c.sv
  l1 : c.sv.length ≤ p.c1
  r2 : Kd.C k91 w p.A2 c.off.length c.off
  l2 : c.off.length ≤ p.c2
  r3 : Kd.C k100 w p.A3 c.ch.length c.ch
  l3 : c.ch.length ≤ p.c3
  r4 : Kd.C k61 w p.A4 c.fl.length c.fl
  l4 : c.fl.length ≤ p.c4
theorem CfgR.below {w w1 : World} {p : CfgAt} {c : Cfg} (h : CfgR w p c) (hb : Below w.heap.size w w1) : CfgR w1 p c :=
  ⟨Kd.C_below h.r1 hb, h.l1, Kd.C_below h.r2 hb, h.l2, Kd.C_below h.r3 hb, h.l3, Kd.C_below h.r4 hb, h.l4⟩

def offIdx (l : List S91) (clock : Int) : Int := idxBy (fun x : S91 => x.f0 == clock) l
theorem idxBy_range {α : Type} (p : α → Bool) (l : List α) : idxBy p l = -1 ∨ (0 ≤ idxBy p l ∧ idxBy p l < l.length) := by
  unfold idxBy
  cases h : l.findIdx? p with
  | none => exact .inl rfl
  | some i =>
    rw [List.findIdx?_eq_some_iff_getElem] at h
    obtain ⟨hi, _⟩ := h
    exact .inr ⟨by simp, by simpa using hi⟩
def offOf (l : List S91) (clock : Int) : Int × Bool := if offIdx l clock < 0 then (0, false) else ((rd_T91 l (offIdx l clock)).f1, true)

set_option maxHeartbeats 1000000 in
theorem offset_calls (c : Cfg) (p : CfgAt) (clock : Int) (w : World) (hR : CfgR w p c) :
    Calls Try.prog 38 #[c.val p, .int .i64 clock] w fun e w' => e = .returned (.tuple #[.int .i64 (offOf c.off clock).1, .bool (offOf c.off clock).2]) ∧ Below w.heap.size w w' := by
  have eg : ∀ args w, (callFunc 70 args).run Try.prog w = .ok (.enter 70 args) w := fun args w => enters_ Try.func70 (by kernel_rfl) rfl args w
  have HR := Aside0.mk hR
  clear hR
  have hb0 : Below w.heap.size w ((w.alloc (.cells #[.int .i64 c.seed, .slice p.A1 c.sv.length p.c1, .slice p.A2 c.off.length p.c2, .slice p.A3 c.ch.length p.c3, .slice p.A4 c.fl.length p.c4, .int .i64 c.sfrom, .int .i64 c.sto, .int .i64 c.per, .int .i64 c.delay, .int .i64 c.chunk, .int .i64 c.loss, .int .i64 c.rep] 31)).alloc (.cells #[.int .i64 clock] 3)) := below_alloc (below_alloc (Below.refl _ _) _) _
  have hcon := idx69_calls p.A2 p.c2 c.off 70 #[.pointer (some ⟨w.heap.size + 1, 0, none⟩)] (fun x => x.f0 == clock) _ HR.out.l2 (Kd.C_below HR.out.r2 hb0) eg (fun W x hb => off1_calls x clock ⟨w.heap.size + 1, 0, none⟩ W ((hb.cell (p := ⟨w.heap.size + 1, 0, none⟩) (by simp)).trans (by simp)))
  have hrg := idxBy_range (fun x : S91 => x.f0 == clock) c.off
  have EO : Aside0 (offOf c.off clock = if idxBy (fun x : S91 => x.f0 == clock) c.off < 0 then (0, false) else ((rd_T91 c.off (idxBy (fun x : S91 => x.f0 == clock) c.off)).f1, true)) := ⟨rfl⟩
  have HB0 := Aside0.mk hb0
  clear hb0
  generalize idxBy (fun x : S91 => x.f0 == clock) c.off = r at hcon hrg EO
  go_enter Try.func38, Try.ntmps38
  go_wp2_with fail
  refine hcon.mono ?_
  rintro e w1 ⟨rfl, hb1⟩
  have hz : w.heap.size + 2 ≤ w1.heap.size := by have := hb1.size; simpa using this
  have HB1 := Aside0.mk (HB0.out.trans (hb1.mono (by simp; omega)))
  by_cases hneg : r < 0
  · go_wp2
    go_ret2
    refine ⟨?_, HB1.out⟩
    rw [EO.out, if_pos hneg]
    rfl
  · obtain ⟨ad, e, h0, h1⟩ := at_T91 HR.out.r2 r (by omega) (by omega)
    have q : w1.cell? ⟨w.heap.size, 2, none⟩ = some (.slice p.A2 c.off.length p.c2) := (hb1.cell (p := ⟨w.heap.size, 2, none⟩) (by simp; omega)).trans (by simp)
    replace h1 := (HB1.out.cell (World.block_lt_of_cell? w _ h1)).trans h1
    have hr0 : 0 ≤ r := by omega
    have hr1 : r < (c.off.length : Int) := by omega
    rw [e] at q
    go_wp2
    go_ret2
    refine ⟨?_, HB1.out⟩
    rw [EO.out, if_neg (by omega)]
    rfl

/-! ### the index of a service -/
theorem idx1_calls (x : S64) (A5 : Option Addr) (c5 : Nat) (name : ByteArray) (a : Addr) (w : World) (hc : w.cell? a = some (.string name)) :
    Calls Try.prog 105 #[.agg #[.string x.f0, .int .i64 x.f1, .int .i64 x.f2, .int .i64 x.f3, .int .i64 x.f4, .slice A5 x.f5.length c5], .pointer (some a)] w fun e w' => e = .returned (.bool (x.f0.toList == name.toList)) ∧ Below w.heap.size w w' := by
  have hlt := World.block_lt_of_cell? w a hc
  have hne : a.block ≠ w.heap.size := by omega
  obtain ⟨f0, f1, f2, f3, f4, f5⟩ := x
  dsimp only
  generalize f5.length = n5
  go_enter Try.func105, Try.ntmps105
  go_wp2
  all_goals (go_ret; exact ⟨by simp_all, (Below.refl _ _).alloc (Nat.le_refl _) _⟩)
theorem rd_T64_get (xs : List S64) (k : Nat) (h : k < xs.length) : rd_T64 xs (k : Int) = xs[k] := by
  unfold rd_T64; simp [List.getD_eq_getElem?_getD, h]
set_option maxHeartbeats 1000000 in
/-- slices.IndexFunc over services, whatever the predicate. -/
theorem idx104_calls (A : Option Addr) (c : Nat) (l : List S64) (g : Nat) (lb : Array Value) (p : S64 → Bool) (w : World) (_hl : l.length ≤ c) (hr : Kd.C k64 w A l.length l)
    (eg : ∀ args w, (callFunc g args).run Try.prog w = .ok (.enter g args) w)
    (hp : ∀ (W : World) (x : S64) (A5 : Option Addr) (c5 : Nat), Below w.heap.size w W → Calls Try.prog g (#[.agg #[.string x.f0, .int .i64 x.f1, .int .i64 x.f2, .int .i64 x.f3, .int .i64 x.f4, .slice A5 x.f5.length c5]] ++ lb) W fun e w' => e = .returned (.bool (p x)) ∧ Below W.heap.size W w') :
    Calls Try.prog 104 #[.slice A l.length c, .func (.func g) #[] lb] w fun e w' => e = .returned (.int .i64 (idxBy p l)) ∧ Below w.heap.size w w' := by
  have hbig : l.length ≤ 9223372036854775807 := hr.2.1
  have HR := Aside0.mk hr
  have HP := Aside0.mk hp
  clear hp hr
  go_enter Try.func104, Try.ntmps104
  go_wp2
  go_loopg [5, 8] l.length (fun gg _ s8 wr => ∃ kk : Nat, kk ≤ l.length ∧ l.length - kk ≤ gg ∧ s8 = .int .i64 kk ∧ Aside0 (Below w.heap.size w wr) ∧ Aside0 (∀ j (_ : j < kk) (hj : j < l.length), p (l[j]) = false))
  case atStart => exact ⟨0, Nat.zero_le _, by omega, rfl, ⟨Below.refl _ w⟩, ⟨fun j hj => absurd hj (Nat.not_lt_zero _)⟩⟩
  case round =>
    obtain ⟨kk, hkk, hg, rfl, BW, AN⟩ := hrel
    by_cases hlt : kk < l.length
    · obtain ⟨ad, A5, c5, e, h0, h1, h2, h3, h4, h5, _, _⟩ := at_T64 HR.out (kk : Int) (by omega) (by omega)
      subst e
      rw [rd_T64_get l kk hlt] at h0 h1 h2 h3 h4 h5
      simp only [Int.toNat_natCast] at h0 h1 h2 h3 h4 h5
      have hcall := HP.out wr l[kk] A5 c5 BW.out
      replace h0 := (BW.out.cell (World.block_lt_of_cell? w _ h0)).trans h0
      replace h1 := (BW.out.cell (World.block_lt_of_cell? w _ h1)).trans h1
      replace h2 := (BW.out.cell (World.block_lt_of_cell? w _ h2)).trans h2
      replace h3 := (BW.out.cell (World.block_lt_of_cell? w _ h3)).trans h3
      replace h4 := (BW.out.cell (World.block_lt_of_cell? w _ h4)).trans h4
      replace h5 := (BW.out.cell (World.block_lt_of_cell? w _ h5)).trans h5
      have hltz : (kk : Int) < (l.length : Int) := by omega
      generalize hy : l[kk] = y at h0 h1 h2 h3 h4 h5 hcall
      have B := Aside0.mk hy
      clear hy
      generalize y.f5.length = n5 at h5 hcall
      cases hq : p y with
      | true =>
        rw [hq] at hcall
        go_wp2_with fail
        refine hcall.mono ?_
        rintro e w' ⟨rfl, hb'⟩
        go_wp2_with fail
        go_ret
        refine ⟨?_, below_step BW.out hb'⟩
        rw [idxBy_hit p l kk hlt (by rw [B.out]; exact hq) (fun j hj => AN.out j hj (by omega))]
        rfl
      | false =>
        rw [hq] at hcall
        go_wp2_with fail
        refine hcall.mono ?_
        rintro e w' ⟨rfl, hb'⟩
        go_wp2_with fail
        go_roundg (l.length - (kk + 1))
        case rel => exact ⟨kk + 1, by omega, Nat.le_refl _, by go_num, ⟨below_step BW.out hb'⟩, ⟨fun j hj hjl => by
          by_cases hjk : j < kk
          · exact AN.out j hjk hjl
          · obtain rfl : j = kk := by omega
            rw [B.out]; exact hq⟩⟩
        case measure => omega
    · obtain rfl : kk = l.length := by omega
      go_wp2
      go_ret
      exact ⟨by rw [idxBy_none p l (fun j hj => AN.out j hj hj)]; rfl, BW.out⟩

def svIdx (l : List S64) (name : ByteArray) : Int := idxBy (fun x : S64 => x.f0.toList == name.toList) l
set_option maxHeartbeats 1000000 in
theorem index_calls (c : Cfg) (p : CfgAt) (name : ByteArray) (w : World) (hR : CfgR w p c) :
    Calls Try.prog 80 #[c.val p, .string name] w fun e w' => e = .returned (.int .i64 (svIdx c.sv name)) ∧ Below w.heap.size w w' := by
  have eg : ∀ args w, (callFunc 105 args).run Try.prog w = .ok (.enter 105 args) w := fun args w => enters_ Try.func105 (by kernel_rfl) rfl args w
  have HR := Aside0.mk hR
  clear hR
  have hb0 : Below w.heap.size w ((w.alloc (.cells #[.int .i64 c.seed, .slice p.A1 c.sv.length p.c1, .slice p.A2 c.off.length p.c2, .slice p.A3 c.ch.length p.c3, .slice p.A4 c.fl.length p.c4, .int .i64 c.sfrom, .int .i64 c.sto, .int .i64 c.per, .int .i64 c.delay, .int .i64 c.chunk, .int .i64 c.loss, .int .i64 c.rep] 31)).alloc (.cells #[.string name] 9)) := below_alloc (below_alloc (Below.refl _ _) _) _
  have hcon := idx104_calls p.A1 p.c1 c.sv 105 #[.pointer (some ⟨w.heap.size + 1, 0, none⟩)] (fun x => x.f0.toList == name.toList) _ HR.out.l1 (Kd.C_below HR.out.r1 hb0) eg (fun W x A5 c5 hb => idx1_calls x A5 c5 name ⟨w.heap.size + 1, 0, none⟩ W ((hb.cell (p := ⟨w.heap.size + 1, 0, none⟩) (by simp)).trans (by simp)))
  have EO : Aside0 (svIdx c.sv name = idxBy (fun x : S64 => x.f0.toList == name.toList) c.sv) := ⟨rfl⟩
  have HB0 := Aside0.mk hb0
  clear hb0
  generalize idxBy (fun x : S64 => x.f0.toList == name.toList) c.sv = r at hcon EO
  go_enter Try.func80, Try.ntmps80
  go_wp2_with fail
  refine hcon.mono ?_
  rintro e w1 ⟨rfl, hb1⟩
  have HB1 := Aside0.mk (HB0.out.trans (hb1.mono (by simp; omega)))
  go_wp2
  go_ret
  refine ⟨?_, HB1.out⟩
  rw [EO.out]
  rfl
end Go.Proofs.Ytdadnapfecmmdaa.P
