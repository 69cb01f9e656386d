/- SimulateFaults returns true for every plan and every further fault, and both read afterwards as they read before. Conditions: those of its row. -/
import Derived.Test.YtdadnapfecmmdaaRows
import Derived.Test.YtdadnapfecmmdaaKf17
import Derived.WalkKit
import Derived.ProofKit
import Derived.OpenShut
import Derived.ShutString
import Derived.ChangeOld
import Derived.Below
import Derived.SizedLaws
namespace Go.Proofs.Ytdadnapfecmmdaa.simulateFaults
open Go.ChangeShapes Go.WideShapes Go.ChangeAt Go.RowKit
set_option linter.unusedVariables false
theorem own : ownKnob Try.prog.godebug = none := by kernel_rfl
theorem laidOut : laidOutB Try.prog = true := by kernel_rfl
set_option maxRecDepth 100000 in
theorem openTrouble {H : Type} {enc : TypeId × Value → H} {w : World} {r : Reach} {b base : Nat} {sp : Nat → Bool} {held : Bool} {v : Value} {d : DataW H} {ps : List MemPlace} (hv : Value.okWide Try.prog w r b 59 v) (h : DataW.Trod enc Try.prog w base sp held 59 v d ps) :
    ∃ x : P.S59, v = .agg (P.tcells x) ∧ (P.U8 x.f0 ∧ P.U8 x.f1 ∧ P.U8 x.f2 ∧ P.U8 x.f3 ∧ P.U8 x.f4 ∧ P.U8 x.f5) := by
  obtain ⟨⟨cs⟩, rfl, hs⟩ : ∃ cs : Array Value, v = .agg cs ∧ cs.size = 6 := by
    simp only [Value.okWide, Try.underlying59] at hv
    obtain ⟨cs, h1, h2, _⟩ := hv
    exact ⟨cs, h1, by rw [h2]; kernel_rfl⟩
  obtain ⟨fuel, hf⟩ := h
  obtain ⟨ns, e, hl, hu⟩ := P.u8struct Try.underlying59 (by kernel_rfl) (P.fields5 (by kernel_rfl)) hf
  match ns, hl with
  | [a, b, c, d, f, g], _ =>
    refine ⟨⟨a, b, c, d, f, g⟩, ?_, hu a (by simp), hu b (by simp), hu c (by simp), hu d (by simp), hu f (by simp), hu g (by simp)⟩
    simp [Value.cells] at e
    rw [e]
set_option maxRecDepth 100000 in
theorem lifted (os : Os) (started : os.Started) (H : Type) (enc : TypeId × Value → H) :
    ReturnsInHanded {} Try.checked os 5 .any (Rows.simulateFaultsSpec.pre6 enc Try.prog Try.f5 Rows.simulateFaultsRow.domain false) (Rows.simulateFaultsSpec.post enc Try.prog Try.f5 false true false false) := by
  refine returnsInHanded_of_change (C := Try.checked) own started (by kernel_rfl) Try.func5
    (ChangeSpec.witness6 (enc := enc) (C := Try.checked) false ⟨#[], #[.agg #[.int .u8 0, .slice none 0 0, .int .i8 0, .int .i8 0, .int .i8 0, .slice none 0 0, .slice none 0 0, .int .u8 0, .int .u8 0, .int .u8 0, .int .u8 0, .int .u8 0, .int .u8 0, .int .u8 0], .agg #[.int .u8 0, .int .u8 0, .int .u8 0, .int .u8 0, .int .u8 0, .int .u8 0]], []⟩ 8 (by kernel_rfl) (by kernel_rfl) (by kernel_rfl) (by kernel_rfl)) ?_
  intro W base args ds gs before hval0 hW hcnd _
  have hval : ∀ (j : Nat) t v, Try.f5.params[j]? = some t → args[j]? = some v → Value.okWide Try.prog W .any base t v := hval0
  have hW' := hW
  obtain ⟨p, q, hA0, hV, rfl, hfz, hnd⟩ := hW
  have hA : DataW.TrodAll enc Try.prog W 0 (fun _ => true) true Try.f5.params.toList args.toList ds p := hA0
  rw [Try.params5] at hA hval
  obtain ⟨v0, vs0, d0, ds0, p0, q0, hargs, rfl, rfl, h0, r0⟩ := trodAll_cons hA
  obtain ⟨v1, vs1, d1, ds1, p1, q1, rfl, rfl, rfl, h1, r1⟩ := trodAll_cons r0
  obtain ⟨rfl, rfl, rfl⟩ := trodAll_nil r1
  obtain rfl : args = #[v0, v1] := by cases args; simp_all
  obtain ⟨rfl, rfl⟩ := trodVars_none hV
  obtain ⟨pl, at0, rfl, hR, hok⟩ := P.openPlan (hval 0 41 v0 rfl rfl) h0
  obtain ⟨tr, rfl, hu⟩ := openTrouble (hval 1 59 v1 rfl rfl) h1
  have k0 := h0
  have k1 := h1
  have lt0 : ∀ x ∈ p0, x.block < W.heap.size := by obtain ⟨m, hm⟩ := k0; exact DataW.trod_lt m _ _ _ hm
  have lt1 : ∀ x ∈ p1, x.block < W.heap.size := by obtain ⟨m, hm⟩ := k1; exact DataW.trod_lt m _ _ _ hm
  clear hA0 hval0
  refine (P.faults_calls pl at0 tr W hR hok hu).mono fun e W' ⟨he, bel⟩ => ?_
  subst he
  exact ⟨_, rfl, _, _, _, [], _, [], hW', trodAll_mk1 (shut_bool Try.underlying4 _), (trodAll_cons_mk (Below.trod laidOut (by kernel_rfl) (of_decide_eq_true (by kernel_rfl)) k0 bel lt0) (trodAll_cons_mk (Below.trod laidOut (by kernel_rfl) (of_decide_eq_true (by kernel_rfl)) k1 bel lt1) trodAll_mk0)), rfl, bel.frame _, fun h => by cases h⟩
theorem over : Rows.simulateFaultsRow.holds Try.pinned (OpenSpec.ofChange Rows.simulateFaultsSpec) :=
  OpenClaim.holds_of_wide 5 Try.f5 rfl rfl rfl rfl rfl rfl rfl ⟨rfl, rfl, rfl, rfl, rfl⟩ rfl rfl rfl rfl rfl (by kernel_rfl) Try.func5 (by kernel_rfl)
    (of_decide_eq_true (by kernel_rfl)) (by unfold Func.isWrapper; first | (rw [if_pos (by decide +kernel)]; kernel_rfl) | (rw [if_neg (by decide +kernel)]; exact ⟨rfl, rfl⟩))
    (fun os started H enc _ => lifted os started H enc)
theorem proved : Rows.SimulateFaultsSaid := over
#print axioms proved
end Go.Proofs.Ytdadnapfecmmdaa.simulateFaults
namespace Go.Proofs.Ytdadnapfecmmdaa
theorem simulateFaults_holds : Rows.SimulateFaultsSaid := simulateFaults.proved
end Go.Proofs.Ytdadnapfecmmdaa
