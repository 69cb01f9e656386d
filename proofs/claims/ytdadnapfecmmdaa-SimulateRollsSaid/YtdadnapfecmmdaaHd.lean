/- Own walk over deployment.Check. -/
import Derived.Test.YtdadnapfecmmdaaPF77
import Derived.Test.YtdadnapfecmmdaaPF78
import Derived.Test.YtdadnapfecmmdaaHm
namespace Go.Proofs.Ytdadnapfecmmdaa.P
set_option linter.unusedVariables false
set_option linter.unusedSimpArgs false
open Go.RowKit Go.Proofs.YtdadnapfecmmdaaW.PrintWords Go.Proofs.YtdadnapfecmmdaaW.PrintLast Go.Proofs.YtdadnapfecmmdaaW.PrintMore
open Go.Proofs.Ytdadnapfecmmdaa.Hm

theorem within_total (s : ByteArray) (lo hi : Int) (hn : s.size ≤ 64) (d : Nat) : ∀ (k : Nat) (i : Int), 0 ≤ i → i ≤ s.size → (s.size : Int) - i = d → d < k → ∃ b, attribute_within.l0 k s lo hi (s.size : Int) i = some b := by
  induction d with
  | zero =>
    intro k i h0 h1 hd hk
    obtain ⟨k, rfl⟩ : ∃ m, k = m + 1 := ⟨k - 1, by omega⟩
    exact ⟨true, by simp only [attribute_within.l0]; rw [if_neg (by omega)]⟩
  | succ d ih =>
    intro k i h0 h1 hd hk
    obtain ⟨k, rfl⟩ : ∃ m, k = m + 1 := ⟨k - 1, by omega⟩
    obtain ⟨b, hb⟩ := ih k (i + 1) (by omega) (by omega) (by omega) (by omega)
    have hw : wrap64 (i + 1) = i + 1 := by unfold wrap64; omega
    simp only [attribute_within.l0]
    rw [if_pos (by omega), if_pos h0, if_pos (by omega), hw, hb]
    split
    · exact ⟨_, rfl⟩
    · split
      · exact ⟨_, rfl⟩
      · exact ⟨_, rfl⟩
theorem isName_total (s : ByteArray) : ∃ b, ∀ k, attribute_IsName.f (k + 70) s = some b := by
  by_cases h1 : s.toList = []
  · exact ⟨false, fun k => by unfold attribute_IsName.f; rw [if_pos h1]⟩
  · by_cases h2 : (s.size : Int) ≤ 64
    · obtain ⟨b, hb⟩ := within_total s 33 126 (by omega) s.size 70 0 (by omega) (by omega) (by omega) (by omega)
      refine ⟨b, fun k => ?_⟩
      have hm : ∀ k, attribute_within.l0 (k + 70) s 33 126 (s.size : Int) 0 = some b := by
        intro k
        induction k with
        | zero => exact hb
        | succ k ih =>
          have := attribute_within.mono_l (k + 70) s 33 126 (s.size : Int) 0 b ih
          rw [show k + 1 + 70 = k + 70 + 1 from by omega]
          exact this
      unfold attribute_IsName.f attribute_within.f
      rw [if_neg h1, if_pos h2, hm k]
      rfl
    · exact ⟨false, fun k => by unfold attribute_IsName.f; rw [if_neg h1, if_neg h2]⟩
/-- It comes to something. -/
def Tot {α : Type} (o : Option α) : Prop := ∃ r, o = some r
theorem Tot.some {α : Type} (r : α) : Tot (some r) := ⟨r, rfl⟩
theorem Tot.ite {α : Type} {c : Prop} [Decidable c] {a b : Option α} (ha : Tot a) (hb : Tot b) : Tot (if c then a else b) := by
  by_cases h : c
  · rw [if_pos h]; exact ha
  · rw [if_neg h]; exact hb
theorem Tot.bind {α β : Type} {a : Option α} {f : α → Option β} (ha : Tot a) (hf : ∀ r, Tot (f r)) : Tot (a.bind f) := by
  obtain ⟨r, rfl⟩ := ha
  exact hf r
theorem isName_tot (k : Nat) (s : ByteArray) : Tot (attribute_IsName.f (k + 70) s) := by
  obtain ⟨b, h⟩ := isName_total s
  exact ⟨b, h k⟩
theorem checkOne_total (c : S100) : Tot (deployment_checkOne.f (((((5 + 70) + 1) + 1) + 1) + 1) c.f0 c.f1 c.f2 c.f3 c.f4 c.f5) := by
  have j3 : ∀ a b t x0 x1 x2 x3 x4 x5, Tot (deployment_checkOne.j3 ((5 + 70) + 1) a b t x0 x1 x2 x3 x4 x5) := fun a b t x0 x1 x2 x3 x4 x5 => by
    rw [deployment_checkOne.j3]
    exact Tot.ite (Tot.some _) (Tot.bind (isName_tot 5 _) fun r => Tot.ite (Tot.ite (Tot.bind (isName_tot 5 _) fun r => Tot.ite (Tot.some _) (Tot.some _)) (Tot.some _)) (Tot.some _))
  have j2 : ∀ a b t x0 x1 x2 x3 x4 x5, Tot (deployment_checkOne.j2 (((5 + 70) + 1) + 1) a b t x0 x1 x2 x3 x4 x5) := fun a b t x0 x1 x2 x3 x4 x5 => by
    rw [deployment_checkOne.j2]
    exact Tot.ite (Tot.some _) (Tot.ite (j3 _ _ _ _ _ _ _ _ _) (j3 _ _ _ _ _ _ _ _ _))
  have j1 : ∀ a b t x0 x1 x2 x3 x4 x5, Tot (deployment_checkOne.j1 ((((5 + 70) + 1) + 1) + 1) a b t x0 x1 x2 x3 x4 x5) := fun a b t x0 x1 x2 x3 x4 x5 => by
    rw [deployment_checkOne.j1]
    exact Tot.ite (Tot.some _) (Tot.ite (j2 _ _ _ _ _ _ _ _ _) (j2 _ _ _ _ _ _ _ _ _))
  have j0 : ∀ a b x0 x1 x2 x3 x4 x5, Tot (deployment_checkOne.j0 (((((5 + 70) + 1) + 1) + 1) + 1) a b x0 x1 x2 x3 x4 x5) := fun a b x0 x1 x2 x3 x4 x5 => by
    rw [deployment_checkOne.j0]
    exact Tot.ite (j1 _ _ _ _ _ _ _ _ _) (j1 _ _ _ _ _ _ _ _ _)
  unfold deployment_checkOne.f
  exact Tot.ite (j0 _ _ _ _ _ _ _ _) (j0 _ _ _ _ _ _ _ _)
def chkOne (c : S100) : Int := (deployment_checkOne.f (((((5 + 70) + 1) + 1) + 1) + 1) c.f0 c.f1 c.f2 c.f3 c.f4 c.f5).getD 0
theorem chkOne_some (c : S100) : deployment_checkOne.f (((((5 + 70) + 1) + 1) + 1) + 1) c.f0 c.f1 c.f2 c.f3 c.f4 c.f5 = some (chkOne c) := by
  obtain ⟨r, h⟩ := checkOne_total c
  unfold chkOne
  rw [h]
  rfl
theorem or_total (l : List Int) (hn : l.length ≤ 6) (d : Nat) : ∀ (k : Nat) (i : Int), 0 ≤ i → i ≤ l.length → (l.length : Int) - i = d → d < k → ∃ b, cmp_Or_int.l0 k 0 l (l.length : Int) i = some b := by
  induction d with
  | zero =>
    intro k i h0 h1 hd hk
    obtain ⟨k, rfl⟩ : ∃ m, k = m + 1 := ⟨k - 1, by omega⟩
    exact ⟨0, by simp only [cmp_Or_int.l0]; rw [if_neg (by omega)]⟩
  | succ d ih =>
    intro k i h0 h1 hd hk
    obtain ⟨k, rfl⟩ : ∃ m, k = m + 1 := ⟨k - 1, by omega⟩
    obtain ⟨b, hb⟩ := ih k (i + 1) (by omega) (by omega) (by omega) (by omega)
    have hw : wrap64 (i + 1) = i + 1 := by unfold wrap64; omega
    simp only [cmp_Or_int.l0]
    rw [if_pos (by omega), if_pos h0, if_pos (by omega), hw, hb]
    split
    · exact ⟨_, rfl⟩
    · exact ⟨_, rfl⟩
theorem cmpInt_total (a b : Int) : ∃ r, cmp_Compare_int.f a b = some r := by
  unfold cmp_Compare_int.f cmp_isNaN_int.f
  simp only [Option.bind_some]
  (repeat' split) <;> exact ⟨_, rfl⟩
theorem chgCmp_total (a b : S100) : ∃ r, deployment_Compare.f 10 a.f0 a.f1 a.f2 a.f3 a.f4 a.f5 b.f0 b.f1 b.f2 b.f3 b.f4 b.f5 = some r := by
  unfold deployment_Compare.f
  obtain ⟨r0, h0⟩ := cmpInt_total a.f2 b.f2
  obtain ⟨r1, h1⟩ := cmpInt_total a.f0 b.f0
  obtain ⟨r2, h2⟩ := cmpInt_total a.f1 b.f1
  rw [h0, h1, h2]
  simp only [Option.bind_some, cmp_Compare_string.f]
  obtain ⟨r, h⟩ := or_total [r0, r1, r2, cmpStr a.f3 b.f3, cmpStr a.f4 b.f4, cmpStr a.f5 b.f5] (by simp) 6 10 0 (by omega) (by simp) (by simp) (by omega)
  unfold cmp_Or_int.f
  rw [h]
  exact ⟨_, rfl⟩
def chgCmp (a b : S100) : Int := (deployment_Compare.f 10 a.f0 a.f1 a.f2 a.f3 a.f4 a.f5 b.f0 b.f1 b.f2 b.f3 b.f4 b.f5).getD 0
theorem chgCmp_some (a b : S100) : deployment_Compare.f 10 a.f0 a.f1 a.f2 a.f3 a.f4 a.f5 b.f0 b.f1 b.f2 b.f3 b.f4 b.f5 = some (chgCmp a b) := by
  obtain ⟨r, h⟩ := chgCmp_total a b
  unfold chgCmp
  rw [h]
  rfl
/-- deployment.Check, from an index on. -/
def depCk (l : List S100) : List (Int × Bool) → Nat → Nat → Int
  | _, _, 0 => 0
  | m, i, n + 1 =>
    let c := rd_T100 l i
    if chkOne c ≠ 0 then chkOne c
    else if 0 < i ∧ chgCmp c (rd_T100 l ((i : Int) - 1)) < 0 then 8
    else if (mget m c.f0).getD false = true then 9
    else depCk l (mput m c.f0 true) (i + 1) n
def depCheck (l : List S100) : Int := if l.length > 256 then 6 else depCk l [] 0 l.length
end Go.Proofs.Ytdadnapfecmmdaa.P
