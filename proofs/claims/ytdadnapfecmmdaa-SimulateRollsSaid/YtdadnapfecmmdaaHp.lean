/- What simulate.Config.trace computes, as plain functions over lists. -/
import Derived.Test.YtdadnapfecmmdaaHg
import Derived.Test.YtdadnapfecmmdaaPF10
import Derived.Test.YtdadnapfecmmdaaPF39
import Derived.OpenShut
namespace Go.Proofs.Ytdadnapfecmmdaa.P
set_option linter.unusedVariables false
set_option linter.unusedSimpArgs false
open Go.RowKit Go.Proofs.YtdadnapfecmmdaaW.PrintWords Go.Proofs.YtdadnapfecmmdaaW.PrintLast Go.Proofs.YtdadnapfecmmdaaW.PrintMore
open Go.Proofs.Ytdadnapfecmmdaa.Hm
theorem word_some (a b : Int) : ∃ t, checksum_Word.f a b = some t ∧ 0 ≤ t ∧ t ≤ 18446744073709551615 := by
  unfold checksum_Word.f
  exact ⟨_, rfl, bounds_u64 (wf_bits _ _ _ _)⟩
theorem mix_ex (a b : Int) : ∃ r, checksum_Mix.f a b = some r ∧ 0 ≤ r ∧ r < 4611686018427387904 := by
  obtain ⟨t, ht, h0, h1⟩ := word_some (IntKind.u64.wrap a) (IntKind.u64.wrap b)
  refine ⟨wrap64 (t / 4), ?_, ?_⟩
  · unfold checksum_Mix.f
    rw [ht]
    rfl
  · have : wrap64 (t / 4) = t / 4 := by unfold wrap64; omega
    rw [this]
    omega
def mixV (a b : Int) : Int := (checksum_Mix.f a b).getD 0
theorem mix_some (a b : Int) : checksum_Mix.f a b = some (mixV a b) := by
  obtain ⟨r, h, _⟩ := mix_ex a b
  unfold mixV
  rw [h]
  rfl
theorem mix_range (a b : Int) : 0 ≤ mixV a b ∧ mixV a b < 4611686018427387904 := by
  obtain ⟨r, h, h0⟩ := mix_ex a b
  unfold mixV
  rw [h]
  exact h0
def rollV (seed a b d : Int) : Int := mixV (mixV (mixV seed a) b) d
theorem roll_range (s a b d : Int) : 0 ≤ rollV s a b d ∧ rollV s a b d < 4611686018427387904 := mix_range _ _
theorem roll_some (c : Cfg) (a b d : Int) : simulate_Roll.f c.seed c.sv c.off c.ch c.fl c.sfrom c.sto c.per c.delay c.chunk c.loss c.rep a b d = some (rollV c.seed a b d) := by
  unfold simulate_Roll.f
  simp only [mix_some, Option.bind_some]
  unfold rollV
  with_reducible rfl
theorem roll_calls (c : Cfg) (p : CfgAt) (a b d : Int) (w : World) (hR : CfgR w p c) : Calls Try.prog 10 #[c.val p, .int .i64 a, .int .i64 b, .int .i64 d] w fun e w' => e = .returned (.int .i64 (rollV c.seed a b d)) ∧ Below w.heap.size w w' :=
  simulate_Roll.calls _ _ _ _ _ _ _ _ _ _ _ _ _ _ _ _ _ _ _ _ _ _ _ _ w hR.r1 hR.l1 hR.r2 hR.l2 hR.r3 hR.l3 hR.r4 hR.l4 (roll_some c a b d)

/-- A service as it lies in the map of services. -/
structure SvV where
  x : S64
  A : Option Addr
  c : Nat
def svVal (s : SvV) : Value := .agg (svCells s.x s.A s.c)
/-- What the faults that concern a span add. -/
def faultsV (name ver : ByteArray) (slot : Int) : List S61 → Int → Int → Int × Int
  | [], w, f => (w, f)
  | x :: r, w, f => if x.f0.toList = name.toList ∧ x.f2.f0 ≤ slot ∧ slot < x.f2.f1 ∧ (x.f1.toList = [] ∨ x.f1.toList = ver.toList) then faultsV name ver slot r (wrap64 (w + x.f3)) (wrap64 (f + x.f4)) else faultsV name ver slot r w f
def strServe : ByteArray := ⟨#[115, 101, 114, 118, 101]⟩
def strCall : ByteArray := ⟨#[99, 97, 108, 108]⟩
def BIG : Int := 1152921504606846976
/-- The end and the error of the span with an index. -/
def setEnd (l : List Sp) (j : Nat) (en : Int) (err : Bool) : List Sp := l.modify j fun s => { s with en := en, err := err }
/-- The calls of a service, one behind the other. -/
def callsV (seed delay t i : Int) (x : S64) (ver : ByteArray) (rec : ByteArray → Int → Int → List Sp → Option (Int × Bool × List Sp)) : List ByteArray → Int → Bool → List Sp → Option (Int × Bool × List Sp)
  | [], y, fl, l => some (y, fl, l)
  | nm :: r, y, fl, l =>
    if l.length < 1000 ∧ 0 ≤ y ∧ y ≤ BIG then
      (rec nm ((l.length : Int) + 1) (y + delay + rollV seed t ((l.length : Int) + 1) 2 % (delay + 1)) (l ++ [⟨t, (l.length : Int) + 1, i, 0, x.f1, 2, x.f0, ver, strCall, y, 0, false⟩])).bind fun q =>
        if 0 ≤ q.1 ∧ q.1 ≤ BIG ∧ l.length < q.2.2.length then
          callsV seed delay t i x ver rec r (q.1 + delay + rollV seed t ((l.length : Int) + 1) 3 % (delay + 1)) (fl || q.2.1)
            (setEnd q.2.2 l.length (q.1 + delay + rollV seed t ((l.length : Int) + 1) 3 % (delay + 1)) q.2.1)
        else none
    else none
/-- A service serves. -/
def serveV (c : Cfg) (slot t : Int) (sm : List (ByteArray × SvV)) : Nat → ByteArray → Int → Int → List Sp → Option (Int × Bool × List Sp)
  | 0, _, _, _, _ => none
  | n + 1, name, parent, x, l =>
    (mget sm name).bind fun sv =>
      (deployment_Active.f n c.ch name slot).bind fun act =>
        if l.length < 1000 ∧ 0 ≤ x ∧ x ≤ BIG ∧ 0 ≤ sv.x.f3 ∧ sv.x.f3 ≤ 1048576 ∧ 0 ≤ sv.x.f2 ∧ sv.x.f2 ≤ 1048576 then
          let ver := act.2.2.2.2.2.1
          let wf := faultsV name ver slot c.fl (sv.x.f2 + rollV c.seed t ((l.length : Int) + 1) 1 % (sv.x.f3 + 1)) sv.x.f4
          if 0 ≤ wf.1 ∧ wf.1 ≤ 1099511627776 then
            (callsV c.seed c.delay t ((l.length : Int) + 1) sv.x ver (serveV c slot t sm n) sv.x.f5 (x + wf.1 / 2) (decide (rollV c.seed t ((l.length : Int) + 1) 4 % 1000000 < wf.2))
              (l ++ [⟨t, (l.length : Int) + 1, parent, 0, sv.x.f1, 3, sv.x.f0, ver, strServe, x, 0, false⟩])).bind fun q =>
              if 0 ≤ q.1 ∧ q.1 ≤ BIG ∧ l.length < q.2.2.length then
                some (q.1 + wf.1 - wf.1 / 2, q.2.1, setEnd q.2.2 l.length (q.1 + wf.1 - wf.1 / 2) q.2.1)
              else none
          else none
        else none
end Go.Proofs.Ytdadnapfecmmdaa.P
