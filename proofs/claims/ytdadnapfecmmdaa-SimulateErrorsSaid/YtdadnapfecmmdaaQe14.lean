/- Own texts of a proof about layer 55's simulate (merged): Va, Vc, Vb, Sr, PF116, PF117, Sc, Vd, Ve, Vf, Ep, En, Ed, Es. -/
import Derived.Test.YtdadnapfecmmdaaProg
import Derived.Test.YtdadnapfecmmdaaQe0
import Derived.Test.YtdadnapfecmmdaaQe10
import Derived.Test.YtdadnapfecmmdaaQe12
import Derived.Test.YtdadnapfecmmdaaQe2
import Derived.Test.YtdadnapfecmmdaaQe3
import Derived.Test.YtdadnapfecmmdaaQe9
import Derived.Deep.DeepMust
import Derived.Lib.Walk
import Derived.Lib.SliceRun
import Derived.Ground.NamesProg
import Derived.Shelf.Sort.Plain
import Derived.Shelf.Slices.In.SortNone
import Derived.Sort.OwnSortedInts
import Derived.WalkKit
namespace Go.Proofs.Ytdadnapfecmmdaa.P
set_option linter.unusedVariables false
open Go.RowKit Go.Proofs.YtdadnapfecmmdaaW.PrintWords Go.Proofs.YtdadnapfecmmdaaW.PrintLast Go.Proofs.YtdadnapfecmmdaaW.PrintMore
theorem w1 (i : Int) (h0 : 0 ≤ i) (h1 : i ≤ 1000000) : wrap64 (i + 1) = i + 1 := by unfold wrap64; omega
end Go.Proofs.Ytdadnapfecmmdaa.P
namespace Go.Proofs.Ytdadnapfecmmdaa.P
set_option linter.unusedVariables false
set_option linter.unusedSimpArgs false
open Go.RowKit Go.Proofs.YtdadnapfecmmdaaW.PrintWords Go.Proofs.YtdadnapfecmmdaaW.PrintLast Go.Proofs.YtdadnapfecmmdaaW.PrintMore
open Go.Proofs.Ytdadnapfecmmdaa.Hm
theorem cmpInt_ord (a b : Int) : cmp_Compare_int.f a b = some (ordV a b) := by
  unfold cmp_Compare_int.f cmp_isNaN_int.f ordV
  simp only [Option.bind_some, bne_self_eq_false, Bool.false_eq_true, if_false]
  split
  · rfl
  · split <;> rfl
theorem or_first (l : List Int) (hl : l.length ≤ 1000) (d : Nat) : ∀ i : Nat, i + d = l.length → ∀ k, d + 1 ≤ k → cmp_Or_int.l0 k 0 l (l.length : Int) (i : Int) = some (firstNz (l.drop i)) := by
  induction d with
  | zero =>
    intro i hi k hk
    obtain ⟨k, rfl⟩ : ∃ m, k = m + 1 := ⟨k - 1, by omega⟩
    simp only [cmp_Or_int.l0]
    rw [if_neg (by omega), List.drop_of_length_le (by omega)]
    rfl
  | succ d ih =>
    intro i hi k hk
    obtain ⟨k, rfl⟩ : ∃ m, k = m + 1 := ⟨k - 1, by omega⟩
    have hr : rd l (i : Int) = l[i] := by unfold rd; simp [List.getD_eq_getElem?_getD, show i < l.length by omega]
    simp only [cmp_Or_int.l0]
    rw [if_pos (by omega), if_pos (by omega), if_pos (by omega), hr, firstNz_drop l i (by omega), w1 _ (by omega) (by omega)]
    by_cases h : l[i] = 0
    · rw [if_pos h, if_pos h]
      exact ih (i + 1) (by omega) k (by omega)
    · rw [if_neg h, if_neg h]
theorem chgCmp_eq (a b : S100) : chgCmp a b = cmp47 a b := by
  unfold chgCmp deployment_Compare.f cmp_Compare_string.f cmp_Or_int.f
  simp only [cmpInt_ord, Option.bind_some]
  have h := or_first [ordV a.f2 b.f2, ordV a.f0 b.f0, ordV a.f1 b.f1, cmpStr a.f3 b.f3, cmpStr a.f4 b.f4, cmpStr a.f5 b.f5] (by simp) 6 0 (by simp) 10 (by omega)
  rw [show ((0 : Nat) : Int) = 0 from rfl] at h
  rw [h]
  rfl
def lexlt (a b : S100) : Prop := a.f2 < b.f2 ∨ (a.f2 = b.f2 ∧ a.f0 < b.f0)
theorem cmp47_lt (a b : S100) (hne : a.f0 ≠ b.f0) : cmp47 a b < 0 ↔ lexlt a b := by
  unfold cmp47 lexlt
  simp only [firstNz, ordV]
  by_cases h1 : a.f2 < b.f2
  · simp [h1]
  · by_cases h2 : a.f2 > b.f2
    · simp [h1, h2]; omega
    · have h3 : a.f2 = b.f2 := by omega
      by_cases h4 : a.f0 < b.f0
      · simp [h3, h4]
      · have h5 : a.f0 > b.f0 := by omega
        simp [h3, h4, h5]
def Apart (a b : S100) : Prop := lexlt a b ∧ a.f0 ≠ b.f0
theorem lexlt_trans {a b c : S100} (h : lexlt a b) (k : lexlt b c) : lexlt a c := by
  unfold lexlt at *
  omega
theorem lexlt_total {a b : S100} (hne : a.f0 ≠ b.f0) (h : ¬ lexlt a b) : lexlt b a := by
  unfold lexlt at *
  omega
theorem ins_mem (x : S100) (l : List S100) (k : Nat) (z : S100) (h : z ∈ l.take k ++ [x] ++ l.drop k) : z ∈ l ∨ z = x := by
  simp only [List.mem_append, List.mem_singleton] at h
  rcases h with (h | h) | h
  · exact .inl (List.mem_of_mem_take h)
  · exact .inr h
  · exact .inl (List.mem_of_mem_drop h)
theorem ins_apart (x : S100) (l : List S100) (hp : l.Pairwise Apart) (hne : ∀ y ∈ l, y.f0 ≠ x.f0) : (l.take (insAt x l) ++ [x] ++ l.drop (insAt x l)).Pairwise Apart := by
  induction l with
  | nil => simp [insAt]
  | cons y r ih =>
    have hy := hne y (by simp)
    rw [List.pairwise_cons] at hp
    by_cases hc : cmp47 y x < 0
    · have e : insAt x (y :: r) = insAt x r + 1 := by simp only [insAt]; rw [if_pos hc]
      rw [e]
      simp only [List.take_succ_cons, List.drop_succ_cons, List.cons_append]
      rw [List.pairwise_cons]
      refine ⟨fun z hz => ?_, ih hp.2 (fun z hz => hne z (by simp [hz]))⟩
      rcases ins_mem x r _ z hz with h | h
      · exact hp.1 z h
      · rw [h]; exact ⟨(cmp47_lt y x hy).mp hc, hy⟩
    · have e : insAt x (y :: r) = 0 := by simp only [insAt]; rw [if_neg hc]
      rw [e]
      simp only [List.take_zero, List.drop_zero, List.nil_append, List.singleton_append]
      have hxy : lexlt x y := lexlt_total hy (fun h => hc ((cmp47_lt y x hy).mpr h))
      rw [List.pairwise_cons]
      refine ⟨fun z hz => ?_, List.pairwise_cons.mpr hp⟩
      rcases List.mem_cons.mp hz with h | h
      · rw [h]; exact ⟨hxy, Ne.symm hy⟩
      · exact ⟨lexlt_trans hxy (hp.1 z h).1, Ne.symm (hne z (by simp [h]))⟩
theorem insNew_true (x : S100) (l : List S100) (hne : ∀ y ∈ l, y.f0 ≠ x.f0) : insNew x l = true := by
  unfold insNew
  split
  · rfl
  · rename_i h
    have hk : insAt x l < l.length := by have := insAt_le x l; omega
    have e : rd_T100 l (insAt x l : Int) = l[insAt x l] := by unfold rd_T100; simp [List.getD_eq_getElem?_getD, hk]
    have hm := hne l[insAt x l] (List.getElem_mem hk)
    rw [e]
    have : (l[insAt x l].f0 == x.f0) = false := by simpa using hm
    unfold same100
    rw [this]
    rfl
theorem srt_inv (ok : S100 → Prop) (l : List S100) (hid : ∀ i (h : i < l.length), l[i].f0 = (i : Int) + 1) (hok : ∀ x ∈ l, ok x) (k : Nat) (hk : k ≤ l.length) :
    (srt47 (l.take k)).Pairwise Apart ∧ ∀ y ∈ srt47 (l.take k), ok y ∧ 1 ≤ y.f0 ∧ y.f0 ≤ (k : Int) := by
  induction k with
  | zero => simp [srt47]
  | succ k ih =>
    obtain ⟨h1, h2⟩ := ih (by omega)
    have e : rd_T100 l (k : Int) = l[k] := by unfold rd_T100; simp [List.getD_eq_getElem?_getD, show k < l.length by omega]
    have hk1 := hid k (by omega)
    rw [srt47_take l k (by omega), e]
    have hne : ∀ y ∈ srt47 (l.take k), y.f0 ≠ l[k].f0 := fun y hy => by have := (h2 y hy).2.2; rw [hk1]; omega
    unfold ins47
    rw [if_pos (insNew_true _ _ hne)]
    refine ⟨ins_apart _ _ h1 hne, fun y hy => ?_⟩
    rcases ins_mem _ _ _ y hy with h | h
    · obtain ⟨a, b, c⟩ := h2 y h
      exact ⟨a, b, by omega⟩
    · rw [h, hk1]
      exact ⟨hok _ (List.getElem_mem _), by omega, by omega⟩
theorem depCk_ok (l : List S100) (hp : l.Pairwise Apart) (hok : ∀ y ∈ l, chkOne y = 0) (n : Nat) : ∀ (m : List (Int × Bool)) (i : Nat), i + n = l.length → (∀ id, mget m id ≠ none → ∃ j, ∃ h : j < l.length, j < i ∧ l[j].f0 = id) → depCk l m i n = 0 := by
  induction n with
  | zero => intro m i _ _; rfl
  | succ n ih =>
    intro m i hi hm
    have hil : i < l.length := by omega
    have e : rd_T100 l (i : Int) = l[i] := by unfold rd_T100; simp [List.getD_eq_getElem?_getD, hil]
    have hpw := List.pairwise_iff_getElem.mp hp
    simp only [depCk, e]
    rw [if_neg (by rw [hok _ (List.getElem_mem hil)]; simp), if_neg, if_neg]
    · refine ih _ (i + 1) (by omega) (fun id hid => ?_)
      by_cases h : id = l[i].f0
      · exact ⟨i, hil, by omega, h.symm⟩
      · rw [mget_put_other _ _ _ _ h] at hid
        obtain ⟨j, hj, hji, he⟩ := hm id hid
        exact ⟨j, hj, by omega, he⟩
    · intro h
      obtain ⟨j, hj, hji, he⟩ := hm l[i].f0 (fun hn => by rw [hn] at h; simp at h)
      exact (hpw j i hj hil hji).2 he
    · rintro ⟨h0, h1⟩
      have e2 : rd_T100 l ((i : Int) - 1) = l[i - 1] := by
        rw [show (i : Int) - 1 = ((i - 1 : Nat) : Int) from by omega]
        unfold rd_T100; simp [List.getD_eq_getElem?_getD, show i - 1 < l.length by omega]
      have hap := hpw (i - 1) i (by omega) hil (by omega)
      rw [e2, chgCmp_eq, cmp47_lt _ _ (Ne.symm hap.2)] at h1
      have := hap.1
      unfold lexlt at h1 this
      omega
theorem name_ok (s : ByteArray) (h : s = nmW ∨ s = nmA ∨ s = nmD ∨ s = nmC ∨ s = ⟨#[118, 49]⟩ ∨ s = ⟨#[118, 50]⟩ ∨ s = ⟨#[118, 51]⟩) : NameOk s := by
  rcases h with rfl | rfl | rfl | rfl | rfl | rfl | rfl <;> exact NameOk.of (by kernel_rfl)
theorem nm47_ok (i : Nat) : NameOk (nm47 i) := by
  match i with
  | 0 => exact name_ok _ (by simp [nm47])
  | 1 => exact name_ok _ (by simp [nm47])
  | 2 => exact name_ok _ (by simp [nm47])
  | _ + 3 => exact name_ok _ (by simp [nm47])
theorem ver47_ok (i : Nat) : NameOk (ver47 i) := by
  match i with
  | 0 => exact name_ok _ (by simp [ver47])
  | 1 => exact name_ok _ (by simp [ver47])
  | _ + 2 => exact name_ok _ (by simp [ver47])
theorem chkOne_ok (c : S100) (a0 : 1 ≤ c.f0) (a1 : c.f0 ≤ 1000) (b0 : 0 ≤ c.f2) (b1 : c.f2 ≤ 1000) (hs : NameOk c.f3)
    (h : (c.f1 = 1 ∧ c.f4 = ⟨#[]⟩ ∧ NameOk c.f5) ∨ ((c.f1 = 2 ∨ c.f1 = 3) ∧ c.f5 = ⟨#[]⟩ ∧ NameOk c.f4)) : chkOne c = 0 := by
  obtain ⟨f0, f1, f2, f3, f4, f5⟩ := c
  dsimp only at *
  have key : ∀ (must other : ByteArray), other = ⟨#[]⟩ → NameOk must → 1 ≤ f1 → f1 ≤ 3 → deployment_checkOne.j0 79 must other f0 f1 f2 f3 f4 f5 = some 0 := by
    intro must other ho hm g0 g1
    have e1 : ¬ (f0 > 1099511627776) := by omega
    have e2 : ¬ (f1 > 3) := by omega
    have e3 : ¬ (f2 > 1048576) := by omega
    simp only [deployment_checkOne.j0]
    rw [if_neg (by omega), show decide (f0 > 1099511627776) = false from by simpa using e1]
    simp only [deployment_checkOne.j1, Bool.false_eq_true, if_false]
    rw [if_neg (by omega), show decide (f1 > 3) = false from by simpa using e2]
    simp only [deployment_checkOne.j2, Bool.false_eq_true, if_false]
    rw [if_neg (by omega), show decide (f2 > 1048576) = false from by simpa using e3]
    simp only [deployment_checkOne.j3, Bool.false_eq_true, if_false]
    rw [hs 75 (by omega)]
    simp only [Option.bind_some, if_true]
    rw [if_pos (by rw [ho]; kernel_rfl), hm 75 (by omega)]
    rfl
  unfold chkOne deployment_checkOne.f
  rcases h with ⟨h1, h2, h3⟩ | ⟨h1, h2, h3⟩
  · dsimp only
    rw [if_pos h1, key f5 f4 h2 h3 (by omega) (by omega)]
    rfl
  · dsimp only
    rw [if_neg (by omega), key f4 f5 h2 h3 (by omega) (by omega)]
    rfl
theorem chgOf_ok (x : S93) (id : Int) (a0 : 1 ≤ id) (a1 : id ≤ 1000) : chkOne (chgOf x id) = 0 ∧ (chgOf x id).f0 = id := by
  unfold chgOf
  split
  · exact ⟨chkOne_ok _ a0 a1 (by dsimp only; omega) (by dsimp only; omega) (nm47_ok _) (.inl ⟨rfl, rfl, ver47_ok _⟩), rfl⟩
  · refine ⟨chkOne_ok _ a0 a1 (by dsimp only; omega) (by dsimp only; omega) (nm47_ok _) (.inr ⟨?_, rfl, nm47_ok _⟩), rfl⟩
    dsimp only
    omega
theorem mkChgs_get (l : List S93) (k i : Nat) (h : i < (mkChgs l k).length) : (mkChgs l k)[i] = chgOf (rd_T93 l i) ((i : Int) + 1) := by
  simp [mkChgs]
theorem mkChgs_inv (l : List S93) : (chgs47 l).Pairwise Apart ∧ ∀ y ∈ chgs47 l, (chkOne y = 0 ∧ ∃ x, ∃ id, y = chgOf x id) ∧ 1 ≤ y.f0 ∧ y.f0 ≤ (min l.length 12 : Nat) := by
  have hl := mkChgs_len l (min l.length 12)
  have h := srt_inv (fun y => chkOne y = 0 ∧ ∃ x, ∃ id, y = chgOf x id) (mkChgs l (min l.length 12))
    (fun i hi => by rw [mkChgs_get]; rw [hl] at hi; exact (chgOf_ok _ _ (by omega) (by omega)).2)
    (fun x hx => by
      obtain ⟨i, hi, rfl⟩ := List.getElem_of_mem hx
      rw [mkChgs_get]
      rw [hl] at hi
      exact ⟨(chgOf_ok _ _ (by omega) (by omega)).1, _, _, rfl⟩) (min l.length 12) (by omega)
  rw [List.take_of_length_le (by omega)] at h
  exact h
theorem chgs_len (l : List S93) : (chgs47 l).length ≤ 12 := by
  unfold chgs47
  have hl := mkChgs_len l (min l.length 12)
  have := srt47_len (mkChgs l (min l.length 12)) (min l.length 12) (by omega)
  rw [List.take_of_length_le (by omega)] at this
  omega
theorem depCheck_ok (l : List S93) : depCheck (chgs47 l) = 0 := by
  unfold depCheck
  have := chgs_len l
  rw [if_neg (by omega)]
  exact depCk_ok _ (mkChgs_inv l).1 (fun y hy => ((mkChgs_inv l).2 y hy).1.1) _ [] 0 (by omega) (fun id h => absurd rfl h)
theorem nm4_ok (i : Nat) : NameOk (nm4 i) := by
  match i with
  | 0 => exact name_ok _ (by simp [nm4])
  | 1 => exact name_ok _ (by simp [nm4])
  | 2 => exact name_ok _ (by simp [nm4])
  | _ + 3 => exact name_ok _ (by simp [nm4])
theorem nm4_all : ((List.range 4).all fun i => (List.range 4).all fun j => ((nm4 i).toList == (nm4 j).toList) == decide (i = j)) = true := by kernel_rfl
theorem nm4_eq (i j : Nat) (hi : i < 4) (hj : j < 4) : ((nm4 i).toList == (nm4 j).toList) = decide (i = j) := by
  have h := List.all_eq_true.mp (List.all_eq_true.mp nm4_all i (List.mem_range.mpr hi)) j (List.mem_range.mpr hj)
  exact beq_iff_eq.mp h
theorem nm4_inj (i j : Nat) (hi : i < 4) (hj : j < 4) (h : nm4 i = nm4 j) : i = j := by
  have := nm4_eq i j hi hj
  rw [h] at this
  simpa using this
section
variable (p : Plan)
theorem plan_n0 : 1 ≤ p.n := by
  unfold Plan.n Plan.ps
  split
  · simp
  · rename_i h
    have := List.length_pos_iff.mpr h
    omega
theorem plan_n4 : p.n ≤ 4 := by unfold Plan.n; omega
theorem sv_len : p.sv.length = p.n := by simp [Plan.sv]
theorem sv_get (i : Nat) (h : i < p.sv.length) : p.sv[i] = svOf p.n i (rd_T87 p.ps i) := by simp [Plan.sv]
theorem sv_idx (j : Nat) (h : j < p.n) : svIdx p.sv (nm4 j) = (j : Int) := by
  have h4 := plan_n4 p
  have hl := sv_len p
  unfold svIdx
  refine idxBy_hit _ _ j (by omega) ?_ (fun i hi => ?_)
  · rw [sv_get]; simp [svOf]
  · rw [sv_get]
    simp only [svOf]
    rw [nm4_eq i j (by omega) (by omega)]
    simp; omega
theorem calls_mem (n i : Nat) (b : Int) (k : Nat) (nm : ByteArray) (h : nm ∈ callsOf n i b k) : ∃ j, i < j ∧ j < n ∧ nm = nm4 j := by
  unfold callsOf at h
  obtain ⟨j, hj, rfl⟩ := List.mem_map.mp h
  have := (List.mem_filter.mp hj).2
  simp only [Bool.and_eq_true, decide_eq_true_eq] at this
  exact ⟨i + 1 + j, by omega, this.1, rfl⟩
def bnd : Nat → Int
  | 0 => 0
  | d + 1 => 4 + 3 * bnd d
theorem bnd_range (d : Nat) (h : d ≤ 4) : 0 ≤ bnd d ∧ bnd d ≤ 160 := by
  match d, h with
  | 0, _ => decide
  | 1, _ => decide
  | 2, _ => decide
  | 3, _ => decide
  | 4, _ => decide
theorem cntSum_le (m : List (ByteArray × Int)) (B : Int) (hB : B ≤ 1000) (hm : ∀ x, 0 ≤ cntName m x ∧ cntName m x ≤ B) (l : List ByteArray) (hl : l.length ≤ 3) : 1 ≤ cntSum m l 1 ∧ cntSum m l 1 ≤ 4 + 3 * B := by
  have e : ∀ x : ByteArray, ∀ n : Int, 0 ≤ n → n ≤ 10000 → wrap64 (n + wrap64 (1 + cntName m x)) = n + (1 + cntName m x) := by
    intro x n h0 h1
    have := hm x
    unfold wrap64; omega
  match l, hl with
  | [], _ => simp only [cntSum]; have := hm ByteArray.empty; omega
  | [x], _ =>
    have := hm x
    simp only [cntSum]
    rw [e x 1 (by omega) (by omega)]
    omega
  | [x, y], _ =>
    have := hm x
    have := hm y
    simp only [cntSum]
    rw [e x 1 (by omega) (by omega), e y _ (by omega) (by omega)]
    omega
  | [x, y, z], _ =>
    have := hm x
    have := hm y
    have := hm z
    simp only [cntSum]
    rw [e x 1 (by omega) (by omega), e y _ (by omega) (by omega), e z _ (by omega) (by omega)]
    omega
  | _ :: _ :: _ :: _ :: _, h => simp at h
theorem cntMap_le (l : List S64) (hl : ∀ x ∈ l, x.f5.length ≤ 3) (h4 : l.length ≤ 4) : ∀ nm, 0 ≤ cntName (cntMap l) nm ∧ cntName (cntMap l) nm ≤ bnd l.length := by
  induction l with
  | nil => intro nm; simp [cntName, cntMap, mget, bnd]
  | cons s r ih =>
    intro nm
    simp only [List.length_cons] at h4
    have ih' := ih (fun x hx => hl x (by simp [hx])) (by omega)
    have hb := bnd_range r.length (by omega)
    have hs := cntSum_le (cntMap r) (bnd r.length) (by omega) ih' s.f5 (hl s (by simp))
    simp only [cntMap, List.length_cons, bnd]
    by_cases h : nm = s.f0
    · subst h
      unfold cntName
      rw [mget_put_same]
      simp only [Option.getD_some]
      omega
    · have e : cntName (mput (cntMap r) s.f0 (cntSum (cntMap r) s.f5 1)) nm = cntName (cntMap r) nm := by unfold cntName; rw [mget_put_other _ _ _ _ h]
      rw [e]
      have := ih' nm
      omega
theorem cfg_cnt : cntOf p.sv ≤ 256 := by
  have h4 := plan_n4 p
  have hl := sv_len p
  have h := cntMap_le p.sv (fun x hx => by
    obtain ⟨i, hi, rfl⟩ := List.getElem_of_mem hx
    rw [sv_get]
    exact callsOf_len _ _ _ _) (by omega) (rd_T64 p.sv 0).f0
  have hb := bnd_range p.sv.length (by omega)
  unfold cntOf
  omega
theorem off_gap (i : Nat) (h : i < p.sv.length) : (offOf p.offs (p.sv[i]).f1).2 = true := by
  rw [sv_get]
  simp only [svOf]
  have h0 : 1 + (rd_T87 p.ps i).f0 % 3 = 1 ∨ 1 + (rd_T87 p.ps i).f0 % 3 = 2 ∨ 1 + (rd_T87 p.ps i).f0 % 3 = 3 := by omega
  unfold offOf offIdx Plan.offs
  rcases h0 with h0 | h0 | h0 <;> rw [h0]
  · rw [idxBy_hit _ _ 0 (by simp) (by simp) (fun j hj => by omega)]; simp
  · rw [idxBy_hit _ _ 1 (by simp) (by simp) (fun j hj => by obtain rfl : j = 0 := by omega
                                                            simp)]; simp
  · rw [idxBy_hit _ _ 2 (by simp) (by simp) (fun j hj => by
      match j, hj with
      | 0, _ => simp
      | 1, _ => simp)]; simp
theorem tm21 (x : Int) : -20 ≤ x.tmod 21 ∧ x.tmod 21 ≤ 20 := by
  have h1 := Int.tmod_lt_of_pos x (show (0 : Int) < 21 by decide)
  have h2 := Int.lt_tmod_of_pos x (show (0 : Int) < 21 by decide)
  omega
theorem ver3_ok (i : Nat) : (ver3 i).toList = [] ∨ NameOk (ver3 i) := by
  match i with
  | 0 => left; kernel_rfl
  | 1 => right; exact name_ok _ (by simp [ver3])
  | _ + 2 => right; exact name_ok _ (by simp [ver3])
theorem cfg_valid (hok : PlanOk p) : Valid (p.cfg chgs47) := by
  have h4 := plan_n4 p
  have h0 := plan_n0 p
  have hl := sv_len p
  have hfl : p.flts.length ≤ 3 := by unfold Plan.flts; simp; omega
  have hfg : ∀ i (h : i < p.flts.length), ∃ x, p.flts[i] = trOf p.n x := fun i h => by
    unfold Plan.flts at h ⊢
    rw [List.getElem_map]
    exact ⟨_, rfl⟩
  obtain ⟨s0, s1⟩ := hok.seed
  refine ⟨?_, ?_, ?_, ?_, ?_, ?_, ?_, ?_, ?_, ?_, ?_, ?_, ?_, off_gap p, depCheck_ok _, ?_, ?_, ?_, ?_, ?_, ?_, ?_, ?_, ?_, ?_, ?_, ?_, ?_, ?_, ?_, ?_, ?_, ?_, cfg_cnt p⟩ <;> simp only [Plan.cfg]
  · omega
  · omega
  · omega
  · omega
  · omega
  · intro i h; rw [sv_get]; exact nm4_ok i
  · intro i h; rw [sv_get]; simp only [svOf]; rw [sv_idx p i (by omega)]; exact Int.le_refl _
  · intro i h; rw [sv_get]; simp only [svOf]; omega
  · intro i h; rw [sv_get]; have := callsOf_len p.n i (rd_T87 p.ps i).f4 3; simp only [svOf]; omega
  · intro i h nm hnm
    rw [sv_get] at hnm
    obtain ⟨j, h1, h2, rfl⟩ := calls_mem _ _ _ _ _ hnm
    rw [sv_idx p j h2]; omega
  · intro i h
    have := tm21 p.o0
    have := tm21 p.o1
    have := tm21 p.o2
    unfold Plan.offs at h ⊢
    simp only [List.length_cons, List.length_nil] at h
    match i, h with
    | 0, _ => dsimp only [List.getElem_cons_zero]; omega
    | 1, _ => dsimp only [List.getElem_cons_zero, List.getElem_cons_succ]; omega
    | 2, _ => dsimp only [List.getElem_cons_zero, List.getElem_cons_succ]; omega
  · unfold Plan.offs; simp
  · intro i h
    unfold Plan.offs at h ⊢
    simp only [List.length_cons, List.length_nil] at h
    match i, h with
    | 0, _ => dsimp only [List.getElem_cons_zero, List.getElem_cons_succ]; omega
    | 1, _ => dsimp only [List.getElem_cons_zero, List.getElem_cons_succ]; omega
  · intro i h
    obtain ⟨x, e⟩ := hfg i h
    rw [e]
    simp only [trOf]
    have hm0 := Int.emod_nonneg x.f0 (show ((p.n : Nat) : Int) ≠ 0 by omega)
    have hm1 := Int.emod_lt_of_pos x.f0 (show (0 : Int) < (p.n : Int) by omega)
    rw [sv_idx p _ (by omega)]; omega
  · intro i h
    obtain ⟨x, e⟩ := hfg i h
    rw [e]; exact ver3_ok _
  · intro i h
    obtain ⟨x, e⟩ := hfg i h
    rw [e]; simp only [trOf]; omega
  · intro i h
    obtain ⟨x, e⟩ := hfg i h
    rw [e]; simp only [trOf]; omega
  all_goals omega
end
end Go.Proofs.Ytdadnapfecmmdaa.P
namespace Go.Proofs.Ytdadnapfecmmdaa.P
set_option linter.unusedVariables false
set_option linter.unusedSimpArgs false
open Go.RowKit Go.Proofs.YtdadnapfecmmdaaW.PrintWords Go.Proofs.YtdadnapfecmmdaaW.PrintLast Go.Proofs.YtdadnapfecmmdaaW.PrintMore
def toS (s : Sp) : S56 := ⟨s.tr, s.id, s.par, s.rev, s.clk, s.kind, s.svc, s.ver, s.op, s.st, s.en, s.err, [], []⟩
def toT (x : Tr) : S51 := ⟨x.id, 1, x.l.map toS⟩
theorem spc_at (l : List Sp) (j : Nat) (hj : j < l.length) : ((spc l).drop (j * 14)).take 14 = l[j].cells := by
  apply List.ext_getElem?
  intro i
  rw [List.getElem?_take]
  split
  · rename_i h
    rw [List.getElem?_drop, spc_get l j i hj h]
  · rename_i h
    rw [List.getElem?_eq_none (by rw [Sp.cells_len]; omega)]
theorem spc_reps (w : World) (l : List Sp) : Reps (k56.K w) 14 (l.map toS) (spc l) := by
  refine ⟨by rw [spc_len, List.length_map], fun j p hj => ?_⟩
  rw [List.getElem?_map] at hj
  obtain ⟨s, hs, rfl⟩ := Option.map_eq_some_iff.mp hj
  obtain ⟨hl, rfl⟩ := List.getElem?_eq_some_iff.mp hs
  rw [spc_at l j hl]
  exact k56_mk w (toS l[j]) (A12 := none) (c12 := 0) (Nat.le_refl _) ⟨rfl, by simp [toS], fun h => absurd h (by simp [toS])⟩ (A13 := none) (c13 := 0) (Nat.le_refl _) ⟨rfl, by simp [toS], fun h => absurd h (by simp [toS])⟩
theorem own_le {w : World} {b : Nat} {e : TypeId} {sz n m : Nat} {A : Option Addr} {c : Nat} {xs : List Value} (h : w.ownsRow b e sz (.slice A n c) m xs) : n ≤ c := by
  rcases h.2 with ⟨h, _⟩ | ⟨g, cap, cur, h1, _, _, h4, _⟩
  · injection h; omega
  · injection h1; omega
theorem spc_reads {w : World} {b : Nat} {v : Value} {l : List Sp} (h : w.ownsRow b 56 14 v l.length (spc l)) : ∃ A c, v = .slice A (l.map toS).length c ∧ (l.map toS).length ≤ c ∧ Kd.C k56 w A (l.map toS).length (l.map toS) := by
  obtain ⟨A, c, rfl, hr⟩ := own_reads_row h (spc_reps w l) (by simp)
  rw [List.length_map]
  exact ⟨A, c, rfl, own_le h, hr⟩
theorem trc_at (xs : List (Tr × Value)) : ∀ j, (hj : j < xs.length) → ((trc xs).drop (j * 3)).take 3 = [.int .i64 xs[j].1.id, .int .i64 1, xs[j].2] := by
  induction xs with
  | nil => intro j hj; simp at hj
  | cons x r ih =>
    intro j hj
    match j with
    | 0 => simp [trc]
    | j + 1 =>
      simp only [trc, List.getElem_cons_succ]
      rw [show (j + 1) * 3 = j * 3 + 3 from by omega]
      have := ih j (by simpa using hj)
      simpa using this
theorem trc_len (xs : List (Tr × Value)) : (trc xs).length = xs.length * 3 := by
  induction xs with
  | nil => rfl
  | cons x r ih => simp only [trc, List.length_append, List.length_cons, List.length_nil, ih]; omega
theorem trc_reps {w : World} {b : Nat} {xs : List (Tr × Value)} (h : TsR w b xs) : Reps (k51.K w) 3 (xs.map fun x => toT x.1) (trc xs) := by
  refine ⟨by rw [trc_len, List.length_map], fun j p hj => ?_⟩
  rw [List.getElem?_map] at hj
  obtain ⟨x, hs, rfl⟩ := Option.map_eq_some_iff.mp hj
  obtain ⟨hl, rfl⟩ := List.getElem?_eq_some_iff.mp hs
  rw [trc_at xs j hl]
  obtain ⟨A, c, e, hc, hr⟩ := spc_reads (h xs[j] (List.getElem_mem hl))
  rw [e]
  exact k51_mk w (toT xs[j].1) hc hr
theorem TsOut.reads {w : World} {b : Nat} {ts : List Tr} {v : Value} (h : TsOut b w ts v) : ∃ A c, v = .slice A (ts.map toT).length c ∧ (ts.map toT).length ≤ c ∧ Kd.C k51 w A (ts.map toT).length (ts.map toT) := by
  obtain ⟨xs, rfl, ho, hr⟩ := h
  obtain ⟨A, c, rfl, hc⟩ := own_reads_row ho (trc_reps hr) (by simp)
  have e : (xs.map (·.1)).map toT = xs.map fun x => toT x.1 := by simp
  rw [e, List.length_map]
  exact ⟨A, c, rfl, own_le ho, hc⟩
end Go.Proofs.Ytdadnapfecmmdaa.P
namespace Go.Proofs.Ytdadnapfecmmdaa.P
open Go.RowKit Go.Proofs.YtdadnapfecmmdaaW.PrintWords Go.Proofs.YtdadnapfecmmdaaW.PrintLast Go.Proofs.YtdadnapfecmmdaaW.PrintMore
attribute [local go_sem] max2_int min2_int max_two min_two max_three min_three max_four min_four   -- for this text's walks alone
set_option linter.unusedVariables false
set_option linter.unusedSimpArgs false
end Go.Proofs.Ytdadnapfecmmdaa.P
namespace Go.Proofs.Ytdadnapfecmmdaa.P
set_option linter.unusedVariables false
set_option linter.unusedSimpArgs false
open Go.RowKit Go.Proofs.YtdadnapfecmmdaaW.PrintWords Go.Proofs.YtdadnapfecmmdaaW.PrintLast Go.Proofs.YtdadnapfecmmdaaW.PrintMore
open Go.Proofs.Ytdadnapfecmmdaa.Hm
abbrev sv14 (s : Sp) (A12 : Option Addr) (c12 : Nat) (A13 : Option Addr) (c13 : Nat) : Array Value := #[.int .i64 s.tr, .int .i64 s.id, .int .i64 s.par, .int .i64 s.rev, .int .i64 s.clk, .int .i64 s.kind, .string s.svc, .string s.ver, .string s.op, .int .i64 s.st, .int .i64 s.en, .bool s.err, .slice A12 0 c12, .slice A13 0 c13]
theorem rdS_at (l : List Sp) (i : Nat) (h : i < l.length) : rd_T56 (l.map toS) (i : Int) = toS l[i] := by
  unfold rd_T56
  simp [List.getD_eq_getElem?_getD, h]
theorem rdT_at (l : List Tr) (i : Nat) (h : i < l.length) : rd_T51 (l.map toT) (i : Int) = toT l[i] := by
  unfold rd_T51
  simp [List.getD_eq_getElem?_getD, h]
theorem eff_l0 (l : List S100) (a : Nat) (ha : a < l.length) (m : List S100) (hm : m.length ≤ 1000) (x y : Int) (d : Nat) : ∀ i : Nat, i + d = m.length → ∃ r, ∀ k, d + 1 ≤ k → deployment_effect.l0 k l (a : Int) m (m.length : Int) (i : Int) x y = some r := by
  induction d with
  | zero =>
    intro i hi
    refine ⟨if x ≥ y then (0, 0) else (x, y), fun k hk => ?_⟩
    obtain ⟨k, rfl⟩ : ∃ q, k = q + 1 := ⟨k - 1, by omega⟩
    simp only [deployment_effect.l0]
    rw [if_neg (by omega)]
    split <;> rfl
  | succ d ih =>
    intro i hi
    obtain ⟨r, hr⟩ := ih (i + 1) (by omega)
    by_cases hs : ((rd_T100 m (i : Int)).f1 == (rd_T100 l (a : Int)).f1 && ((rd_T100 m (i : Int)).f3.toList == (rd_T100 l (a : Int)).f3.toList && ((rd_T100 m (i : Int)).f4.toList == (rd_T100 l (a : Int)).f4.toList))) = true
    · refine ⟨if x ≥ (rd_T100 m (i : Int)).f2 then (0, 0) else (x, (rd_T100 m (i : Int)).f2), fun k hk => ?_⟩
      obtain ⟨k, rfl⟩ : ∃ q, k = q + 1 := ⟨k - 1, by omega⟩
      simp only [deployment_effect.l0]
      rw [if_pos (by omega), if_pos (by omega), if_pos (by omega)]
      simp only [deployment_subjectOf.f, Option.bind_some]
      rw [if_pos (by omega), if_pos (by omega)]
      simp only [hs, if_true]
      split <;> rfl
    · refine ⟨r, fun k hk => ?_⟩
      obtain ⟨k, rfl⟩ : ∃ q, k = q + 1 := ⟨k - 1, by omega⟩
      simp only [deployment_effect.l0]
      rw [if_pos (by omega), if_pos (by omega), if_pos (by omega)]
      simp only [deployment_subjectOf.f, Option.bind_some]
      rw [if_pos (by omega), if_pos (by omega)]
      rw [if_neg hs, w1 _ (by omega) (by omega)]
      exact hr k (by omega)
theorem eff_ok (l : List S100) (hl : l.length ≤ 1000) (a : Nat) (ha : a < l.length) : ∃ r, ∀ k, l.length + 1 ≤ k → deployment_effect.f k l (a : Int) = some r := by
  obtain ⟨r, hr⟩ := eff_l0 l a ha (l.drop (a + 1)) (by simp; omega) (rd_T100 l (a : Int)).f2 1048577 (l.drop (a + 1)).length 0 (by omega)
  refine ⟨r, fun k hk => ?_⟩
  unfold deployment_effect.f
  rw [w1 _ (by omega) (by omega), if_pos (by omega), if_pos (by omega), if_pos (by omega), if_pos (by omega)]
  simp only [Option.bind_some]
  rw [show ((a : Int) + 1).toNat = a + 1 from by omega]
  exact hr k (by simp; omega)
abbrev Act := Int × Int × Int × ByteArray × ByteArray × ByteArray × Bool
def noAct : Act := (0, 0, 0, (⟨#[]⟩ : ByteArray), (⟨#[]⟩ : ByteArray), (⟨#[]⟩ : ByteArray), false)
def isAct (y : S100) : Act := (y.f0, y.f1, y.f2, y.f3, y.f4, y.f5, true)
theorem act_l0 (l : List S100) (hl : l.length ≤ 1000) (name : ByteArray) (slot : Int) (d : Nat) : ∀ i : Nat, i + d = l.length →
    ∃ r : Act, (∀ k, d + l.length + 2 ≤ k → deployment_Active.l0 k l name slot l (l.length : Int) (i : Int) = some r) ∧ (r = noAct ∨ ∃ y ∈ l, r = isAct y ∧ y.f1 = 1) := by
  induction d with
  | zero =>
    intro i hi
    refine ⟨noAct, fun k hk => ?_, .inl rfl⟩
    obtain ⟨k, rfl⟩ : ∃ q, k = q + 1 := ⟨k - 1, by omega⟩
    simp only [deployment_Active.l0]
    rw [if_neg (by omega)]
    rfl
  | succ d ih =>
    intro i hi
    obtain ⟨r, hr, hc⟩ := ih (i + 1) (by omega)
    have e : rd_T100 l (i : Int) = l[i] := by unfold rd_T100; simp [List.getD_eq_getElem?_getD, show i < l.length by omega]
    obtain ⟨q, hq⟩ := eff_ok l hl i (by omega)
    by_cases h1 : l[i].f1 = 1
    · by_cases h2 : l[i].f3.toList = name.toList
      · by_cases h3 : q.1 ≤ slot ∧ slot < q.2
        · refine ⟨isAct l[i], fun k hk => ?_, .inr ⟨l[i], List.getElem_mem _, rfl, h1⟩⟩
          obtain ⟨k, rfl⟩ : ∃ q, k = q + 1 := ⟨k - 1, by omega⟩
          simp only [deployment_Active.l0]
          rw [if_pos (by omega), if_pos (by omega), if_pos (by omega), e, if_pos h1, if_pos h2, hq k (by omega)]
          simp only [Option.bind_some, deployment_has.f]
          rw [if_pos h3.1]
          simp only [Option.bind_some]
          rw [if_pos (by simpa using h3.2)]
          rfl
        · refine ⟨r, fun k hk => ?_, hc⟩
          obtain ⟨k, rfl⟩ : ∃ q, k = q + 1 := ⟨k - 1, by omega⟩
          simp only [deployment_Active.l0]
          rw [if_pos (by omega), if_pos (by omega), if_pos (by omega), e, if_pos h1, if_pos h2, hq k (by omega)]
          simp only [Option.bind_some, deployment_has.f]
          by_cases h4 : q.1 ≤ slot
          · rw [if_pos h4]
            simp only [Option.bind_some]
            rw [if_neg (by simp; omega), w1 _ (by omega) (by omega)]
            exact hr k (by omega)
          · rw [if_neg h4]
            simp only [Option.bind_some]
            rw [if_neg (by simp), w1 _ (by omega) (by omega)]
            exact hr k (by omega)
      · refine ⟨r, fun k hk => ?_, hc⟩
        obtain ⟨k, rfl⟩ : ∃ q, k = q + 1 := ⟨k - 1, by omega⟩
        simp only [deployment_Active.l0]
        rw [if_pos (by omega), if_pos (by omega), if_pos (by omega), e, if_pos h1, if_neg h2, w1 _ (by omega) (by omega)]
        exact hr k (by omega)
    · refine ⟨r, fun k hk => ?_, hc⟩
      obtain ⟨k, rfl⟩ : ∃ q, k = q + 1 := ⟨k - 1, by omega⟩
      simp only [deployment_Active.l0]
      rw [if_pos (by omega), if_pos (by omega), if_pos (by omega), e, if_neg h1, w1 _ (by omega) (by omega)]
      exact hr k (by omega)
def actV (l : List S100) (name : ByteArray) (slot : Int) : Act := (deployment_Active.f 100 l name slot).getD noAct
theorem act_ok (l : List S100) (hl : l.length ≤ 40) (name : ByteArray) (slot : Int) : (∀ k, 100 ≤ k → deployment_Active.f k l name slot = some (actV l name slot)) ∧ (actV l name slot = noAct ∨ ∃ y ∈ l, actV l name slot = isAct y ∧ y.f1 = 1) := by
  obtain ⟨r, hr, hc⟩ := act_l0 l (by omega) name slot l.length 0 (by omega)
  have h : ∀ k, 100 ≤ k → deployment_Active.f k l name slot = some r := fun k hk => by
    unfold deployment_Active.f
    exact hr k (by omega)
  have e : actV l name slot = r := by unfold actV; rw [h 100 (by omega)]; rfl
  rw [e]
  exact ⟨h, hc⟩
structure Sys (c : Cfg) : Prop where
  n0 : 1 ≤ c.sv.length
  n4 : c.sv.length ≤ 4
  name : ∀ i (h : i < c.sv.length), c.sv[i].f0 = nm4 i
  calls : ∀ i (h : i < c.sv.length), ∀ nm ∈ c.sv[i].f5, ∃ j, i < j ∧ j < c.sv.length ∧ nm = nm4 j
  clen : ∀ i (h : i < c.sv.length), c.sv[i].f5.length ≤ 3
  work : ∀ i (h : i < c.sv.length), 0 ≤ c.sv[i].f2 ∧ c.sv[i].f2 ≤ 19 ∧ 0 ≤ c.sv[i].f3 ∧ c.sv[i].f3 ≤ 9
  fault : ∀ x ∈ c.fl, 0 ≤ x.f3 ∧ x.f3 ≤ 29
  faults : c.fl.length ≤ 3
  delay0 : 0 ≤ c.delay
  delay1 : c.delay ≤ 5
  chg : c.ch.length ≤ 12
theorem plan_sys (p : Plan) (hok : PlanOk p) : Sys (p.cfg chgs47) := by
  have h4 := plan_n4 p
  have h0 := plan_n0 p
  have hl := sv_len p
  refine ⟨?_, ?_, ?_, ?_, ?_, ?_, ?_, ?_, ?_, ?_, chgs_len _⟩ <;> simp only [Plan.cfg]
  · omega
  · omega
  · intro i h; rw [sv_get]; rfl
  · intro i h nm hnm
    rw [sv_get] at hnm
    obtain ⟨j, h1, h2, rfl⟩ := calls_mem _ _ _ _ _ hnm
    exact ⟨j, h1, by omega, rfl⟩
  · intro i h; rw [sv_get]; exact callsOf_len _ _ _ _
  · intro i h; rw [sv_get]; simp only [svOf]; omega
  · intro x hx
    unfold Plan.flts at hx
    obtain ⟨y, _, rfl⟩ := List.mem_map.mp hx
    simp only [trOf]; omega
  · unfold Plan.flts; simp; omega
  · omega
  · omega
theorem smC_take (l : List S64) (hn : ∀ i (h : i < l.length), l[i].f0 = nm4 i) (h4 : l.length ≤ 4) (k : Nat) (hk : k ≤ l.length) : ∀ j (hj : j < k), mget (smC (l.take k)) (nm4 j) = some ⟨l[j]'(by omega), none, 0⟩ := by
  induction k with
  | zero => intro j hj; omega
  | succ k ih =>
    intro j hj
    rw [List.take_succ_eq_append_getElem (by omega), smC_snoc]
    rw [hn k (by omega)]
    by_cases h : j = k
    · subst h
      rw [mget_put_same]
    · rw [mget_put_other _ _ _ _ (fun e => h (nm4_inj _ _ (by omega) (by omega) e))]
      exact ih (by omega) j (by omega)
theorem Sys.look {c : Cfg} (hS : Sys c) (j : Nat) (hj : j < c.sv.length) : mget (smC c.sv) (nm4 j) = some ⟨c.sv[j], none, 0⟩ := by
  have h := smC_take c.sv hS.name hS.n4 c.sv.length (Nat.le_refl _) j hj
  rwa [List.take_length] at h
theorem Sys.idx {c : Cfg} (hS : Sys c) (j : Nat) (hj : j < c.sv.length) : svIdx c.sv (nm4 j) = (j : Int) := by
  have h4 := hS.n4
  unfold svIdx
  refine idxBy_hit _ _ j hj ?_ (fun i hi => ?_)
  · rw [hS.name]; simp
  · rw [hS.name]
    show ((nm4 i).toList == (nm4 j).toList) = false
    rw [nm4_eq i j (by omega) (by omega)]
    simp; omega
abbrev Res := Int × Bool × List Sp
def callsI (seed delay t i : Int) (x : S64) (ver : ByteArray) (rec : ByteArray → Int → Int → Nat → Res) : List ByteArray → Int → Bool → Nat → Res
  | [], y, fl, _ => (y, fl, [])
  | nm :: r, y, fl, len =>
    let q := rec nm ((len : Int) + 1) (y + delay + rollV seed t ((len : Int) + 1) 2 % (delay + 1)) (len + 1)
    let z := q.1 + delay + rollV seed t ((len : Int) + 1) 3 % (delay + 1)
    let s := callsI seed delay t i x ver rec r z (fl || q.2.1) (len + 1 + q.2.2.length)
    (s.1, s.2.1, ⟨t, (len : Int) + 1, i, 0, x.f1, 2, x.f0, ver, strCall, y, z, q.2.1⟩ :: (q.2.2 ++ s.2.2))
def workV (c : Cfg) (slot t : Int) (sv : S64) (len : Nat) : Int × Int := faultsV sv.f0 (actV c.ch sv.f0 slot).2.2.2.2.2.1 slot c.fl (sv.f2 + rollV c.seed t ((len : Int) + 1) 1 % (sv.f3 + 1)) sv.f4
def serveI (c : Cfg) (slot t : Int) : Nat → ByteArray → Int → Int → Nat → Res
  | 0, _, _, _, _ => (0, false, [])
  | d + 1, nm, parent, x, len =>
    let sv := rd_T64 c.sv (svIdx c.sv nm)
    let ver := (actV c.ch sv.f0 slot).2.2.2.2.2.1
    let wf := workV c slot t sv len
    let q := callsI c.seed c.delay t ((len : Int) + 1) sv ver (serveI c slot t d) sv.f5 (x + wf.1 / 2) (decide (rollV c.seed t ((len : Int) + 1) 4 % 1000000 < wf.2)) (len + 1)
    (q.1 + wf.1 - wf.1 / 2, q.2.1, ⟨t, (len : Int) + 1, parent, 0, sv.f1, 3, sv.f0, ver, strServe, x, q.1 + wf.1 - wf.1 / 2, q.2.1⟩ :: q.2.2)
def tim : Nat → Int
  | 0 => 0
  | d + 1 => 200 + 3 * (tim d + 30)
def lng : Nat → Nat
  | 0 => 0
  | d + 1 => 4 + 3 * lng d
theorem setEnd_snoc (l m : List Sp) (s : Sp) (en : Int) (err : Bool) : setEnd (l ++ s :: m) l.length en err = l ++ { s with en := en, err := err } :: m := by
  unfold setEnd
  rw [List.modify_eq_take_cons_drop (by simp)]
  simp
def RecOk (rec : ByteArray → Int → Int → List Sp → Option (Int × Bool × List Sp)) (recI : ByteArray → Int → Int → Nat → Res) (B : Nat) (T : Int) (nm : ByteArray) : Prop :=
  ∀ parent x (l : List Sp), l.length + B ≤ 1000 → 0 ≤ x → x + T ≤ BIG →
    (rec nm parent x l = some ((recI nm parent x l.length).1, (recI nm parent x l.length).2.1, l ++ (recI nm parent x l.length).2.2)) ∧ x ≤ (recI nm parent x l.length).1 ∧ (recI nm parent x l.length).1 ≤ x + T ∧ (recI nm parent x l.length).2.2.length ≤ B
theorem calls_eq (seed delay t i : Int) (x : S64) (ver : ByteArray) (rec : ByteArray → Int → Int → List Sp → Option (Int × Bool × List Sp)) (recI : ByteArray → Int → Int → Nat → Res) (B : Nat) (T : Int) (hd0 : 0 ≤ delay) (hd1 : delay ≤ 5) (hT : 0 ≤ T) :
    ∀ (cl : List ByteArray), (∀ nm ∈ cl, RecOk rec recI B T nm) → ∀ (y : Int) (fl : Bool) (l : List Sp), l.length + cl.length * (1 + B) ≤ 1000 → 0 ≤ y → y + (cl.length : Int) * (T + 30) ≤ BIG →
      (callsV seed delay t i x ver rec cl y fl l = some ((callsI seed delay t i x ver recI cl y fl l.length).1, (callsI seed delay t i x ver recI cl y fl l.length).2.1, l ++ (callsI seed delay t i x ver recI cl y fl l.length).2.2)) ∧ y ≤ (callsI seed delay t i x ver recI cl y fl l.length).1 ∧ (callsI seed delay t i x ver recI cl y fl l.length).1 ≤ y + (cl.length : Int) * (T + 30) ∧ (callsI seed delay t i x ver recI cl y fl l.length).2.2.length ≤ cl.length * (1 + B) := by
  intro cl
  induction cl with
  | nil => intro _ y fl l _ h0 _; simp [callsV, callsI]
  | cons nm r ih =>
    intro hrec y fl l hl h0 hy
    simp only [List.length_cons] at hl hy ⊢
    have m1 : (r.length + 1) * (1 + B) = r.length * (1 + B) + (1 + B) := Nat.succ_mul _ _
    have m2 : ((r.length + 1 : Nat) : Int) * (T + 30) = (r.length : Int) * (T + 30) + (T + 30) := by
      rw [Int.natCast_add, Int.add_mul]; simp
    have m3 : 0 ≤ (r.length : Int) * (T + 30) := Int.mul_nonneg (by omega) (by omega)
    rw [m1] at hl ⊢
    rw [m2] at hy ⊢
    have hih := ih (fun nm hnm => hrec nm (by simp [hnm]))
    clear ih m1 m2
    generalize r.length * (1 + B) = P at hl hih ⊢
    generalize (r.length : Int) * (T + 30) = Q at hy m3 hih ⊢
    have r2 := Int.emod_nonneg (rollV seed t ((l.length : Int) + 1) 2) (show delay + 1 ≠ 0 by omega)
    have r2' := Int.emod_lt_of_pos (rollV seed t ((l.length : Int) + 1) 2) (show 0 < delay + 1 by omega)
    have r3 := Int.emod_nonneg (rollV seed t ((l.length : Int) + 1) 3) (show delay + 1 ≠ 0 by omega)
    have r3' := Int.emod_lt_of_pos (rollV seed t ((l.length : Int) + 1) 3) (show 0 < delay + 1 by omega)
    obtain ⟨h1, h2, h3, h4⟩ := hrec nm (by simp) ((l.length : Int) + 1) (y + delay + rollV seed t ((l.length : Int) + 1) 2 % (delay + 1)) (l ++ [⟨t, (l.length : Int) + 1, i, 0, x.f1, 2, x.f0, ver, strCall, y, 0, false⟩]) (by simp only [List.length_append, List.length_singleton]; omega) (by omega) (by omega)
    rw [show (l ++ [(⟨t, (l.length : Int) + 1, i, 0, x.f1, 2, x.f0, ver, strCall, y, 0, false⟩ : Sp)]).length = l.length + 1 from by simp] at h1 h2 h3 h4
    simp only [callsV, callsI]
    generalize recI nm ((l.length : Int) + 1) (y + delay + rollV seed t ((l.length : Int) + 1) 2 % (delay + 1)) (l.length + 1) = q at h1 h2 h3 h4 ⊢
    obtain ⟨q1, q2, q3⟩ := q
    dsimp only at h1 h2 h3 h4 ⊢
    rw [if_pos ⟨by omega, h0, by omega⟩, h1]
    simp only [Option.bind_some]
    rw [if_pos ⟨by omega, by omega, by simp⟩]
    rw [List.append_assoc, List.singleton_append, setEnd_snoc]
    have hlen : (l ++ (⟨t, (l.length : Int) + 1, i, 0, x.f1, 2, x.f0, ver, strCall, y, q1 + delay + rollV seed t ((l.length : Int) + 1) 3 % (delay + 1), q2⟩ : Sp) :: q3).length = l.length + 1 + q3.length := by simp; omega
    obtain ⟨g1, g2, g3, g4⟩ := hih (q1 + delay + rollV seed t ((l.length : Int) + 1) 3 % (delay + 1)) (fl || q2) (l ++ (⟨t, (l.length : Int) + 1, i, 0, x.f1, 2, x.f0, ver, strCall, y, q1 + delay + rollV seed t ((l.length : Int) + 1) 3 % (delay + 1), q2⟩ : Sp) :: q3) (by rw [hlen]; omega) (by omega) (by omega)
    rw [hlen] at g1 g2 g3 g4
    refine ⟨?_, by omega, by omega, by simp only [List.length_cons, List.length_append]; omega⟩
    rw [g1]
    simp
theorem faults_bound (name ver : ByteArray) (slot : Int) (l : List S61) (hl : ∀ x ∈ l, 0 ≤ x.f3 ∧ x.f3 ≤ 29) (hn : l.length ≤ 3) : ∀ w f, 0 ≤ w → w + 29 * (l.length : Int) ≤ 1000 → w ≤ (faultsV name ver slot l w f).1 ∧ (faultsV name ver slot l w f).1 ≤ w + 29 * l.length := by
  induction l with
  | nil => intro w f h0 h1; simp [faultsV]
  | cons x r ih =>
    intro w f h0 h1
    obtain ⟨a, b⟩ := hl x (by simp)
    simp only [List.length_cons] at hn h1 ⊢
    have hw : wrap64 (w + x.f3) = w + x.f3 := by unfold wrap64; omega
    have ih' := ih (fun y hy => hl y (by simp [hy])) (by omega)
    simp only [faultsV]
    split
    · rw [hw]
      have := ih' (w + x.f3) (wrap64 (f + x.f4)) (by omega) (by omega)
      omega
    · have := ih' w f h0 (by omega)
      omega
theorem Sys.workV {c : Cfg} (hS : Sys c) (slot t : Int) (j : Nat) (hj : j < c.sv.length) (len : Nat) : 0 ≤ (workV c slot t c.sv[j] len).1 ∧ (workV c slot t c.sv[j] len).1 ≤ 200 := by
  obtain ⟨a, b, e, d⟩ := hS.work j hj
  have r := Int.emod_nonneg (rollV c.seed t ((len : Int) + 1) 1) (show c.sv[j].f3 + 1 ≠ 0 by omega)
  have r' := Int.emod_lt_of_pos (rollV c.seed t ((len : Int) + 1) 1) (show 0 < c.sv[j].f3 + 1 by omega)
  have := faults_bound c.sv[j].f0 (actV c.ch c.sv[j].f0 slot).2.2.2.2.2.1 slot c.fl hS.fault hS.faults (c.sv[j].f2 + rollV c.seed t ((len : Int) + 1) 1 % (c.sv[j].f3 + 1)) c.sv[j].f4 (by omega) (by have := hS.faults; omega)
  have hf := hS.faults
  unfold P.workV
  omega
theorem tim_pos (d : Nat) : 0 ≤ tim d := by
  induction d with
  | zero => simp [tim]
  | succ d ih => simp only [tim]; omega
theorem serve_eq (c : Cfg) (hS : Sys c) (slot t : Int) (d : Nat) : ∀ j, j < c.sv.length → c.sv.length ≤ j + d → ∀ m, 100 + d ≤ m → RecOk (serveV c slot t (smC c.sv) m) (serveI c slot t d) (lng d) (tim d) (nm4 j) := by
  induction d with
  | zero => intro j hj hd; omega
  | succ d ih =>
    intro j hj hd m hm parent x l hl h0 hx
    obtain ⟨m, rfl⟩ : ∃ q, m = q + 1 := ⟨m - 1, by omega⟩
    have hw := hS.workV slot t j hj l.length
    have hwk := hS.work j hj
    have hcl := hS.clen j hj
    have hT := tim_pos d
    have hac := (act_ok c.ch (by have := hS.chg; omega) c.sv[j].f0 slot).1 m (by omega)
    have hr : rd_T64 c.sv (svIdx c.sv (nm4 j)) = c.sv[j] := by rw [hS.idx j hj]; exact rd64 _ _ hj
    have hnm := hS.name j hj
    have hb1 : c.sv[j].f5.length * (1 + lng d) ≤ 3 * (1 + lng d) := Nat.mul_le_mul_right _ hcl
    have hb2 : (c.sv[j].f5.length : Int) * (tim d + 30) ≤ 3 * (tim d + 30) := Int.mul_le_mul_of_nonneg_right (by omega) (by omega)
    simp only [tim, lng] at hl hx ⊢
    have hc := calls_eq c.seed c.delay t ((l.length : Int) + 1) c.sv[j] (actV c.ch c.sv[j].f0 slot).2.2.2.2.2.1 (serveV c slot t (smC c.sv) m) (serveI c slot t d) (lng d) (tim d) hS.delay0 hS.delay1 hT c.sv[j].f5
      (fun nm hnm => by
        obtain ⟨i, h1, h2, rfl⟩ := hS.calls j hj nm hnm
        exact ih i h2 (by omega) m (by omega))
      (x + (workV c slot t c.sv[j] l.length).1 / 2) (decide (rollV c.seed t ((l.length : Int) + 1) 4 % 1000000 < (workV c slot t c.sv[j] l.length).2))
      (l ++ [⟨t, (l.length : Int) + 1, parent, 0, c.sv[j].f1, 3, c.sv[j].f0, (actV c.ch c.sv[j].f0 slot).2.2.2.2.2.1, strServe, x, 0, false⟩]) (by simp only [List.length_append, List.length_singleton]; omega) (by omega) (by omega)
    rw [show (l ++ [(⟨t, (l.length : Int) + 1, parent, 0, c.sv[j].f1, 3, c.sv[j].f0, (actV c.ch c.sv[j].f0 slot).2.2.2.2.2.1, strServe, x, 0, false⟩ : Sp)]).length = l.length + 1 from by simp] at hc
    simp only [serveV, serveI, hS.look j hj, Option.bind_some, hr]
    rw [← hnm, hac]
    simp only [Option.bind_some]
    have hW : faultsV c.sv[j].f0 (actV c.ch c.sv[j].f0 slot).2.2.2.2.2.1 slot c.fl (c.sv[j].f2 + rollV c.seed t ((l.length : Int) + 1) 1 % (c.sv[j].f3 + 1)) c.sv[j].f4 = workV c slot t c.sv[j] l.length := rfl
    rw [hW]
    generalize workV c slot t c.sv[j] l.length = wf at hw hc ⊢
    generalize callsI c.seed c.delay t ((l.length : Int) + 1) c.sv[j] (actV c.ch c.sv[j].f0 slot).2.2.2.2.2.1 (serveI c slot t d) c.sv[j].f5 (x + wf.1 / 2) (decide (rollV c.seed t ((l.length : Int) + 1) 4 % 1000000 < wf.2)) (l.length + 1) = q at hc ⊢
    obtain ⟨q1, q2, q3⟩ := q
    obtain ⟨wf1, wf2⟩ := wf
    dsimp only at hc hw ⊢
    obtain ⟨g1, g2, g3, g4⟩ := hc
    rw [if_pos ⟨by omega, h0, by omega, by omega, by omega, by omega, by omega⟩, if_pos ⟨by omega, by omega⟩, g1]
    simp only [Option.bind_some]
    rw [if_pos ⟨by omega, by omega, by simp⟩]
    rw [List.append_assoc, List.singleton_append, setEnd_snoc]
    refine ⟨rfl, by omega, by omega, by simp only [List.length_cons]; omega⟩
def traceId (slot k : Int) : Int := slot * 1048576 + 1 + k
def traceI (c : Cfg) (slot k : Int) : List Sp := (serveI c slot (traceId slot k) c.sv.length (nm4 0) 0 (1000 * slot + 7 * k) 0).2.2
theorem traceI_cons (c : Cfg) (hS : Sys c) (slot k : Int) : ∃ s r, traceI c slot k = s :: r ∧ s.tr = traceId slot k := by
  unfold traceI
  obtain ⟨d, hd⟩ : ∃ d, c.sv.length = d + 1 := ⟨c.sv.length - 1, by have := hS.n0; omega⟩
  rw [hd]
  exact ⟨_, _, rfl, rfl⟩
theorem lng_le (d : Nat) (h : d ≤ 4) : lng d ≤ 160 ∧ tim d ≤ 11600 := by
  match d, h with
  | 0, _ => decide
  | 1, _ => decide
  | 2, _ => decide
  | 3, _ => decide
  | 4, _ => decide
theorem trace_eq (c : Cfg) (hS : Sys c) (slot k : Int) (m : Nat) (hm : 110 ≤ m) (hs0 : 0 ≤ slot) (hs1 : slot ≤ 1000) (hk0 : 0 ≤ k) (hk1 : k ≤ 1000) : traceV m c slot k = some (traceI c slot k) := by
  have h0 := hS.n0
  have h4 := hS.n4
  have hd0 := hS.delay0
  have hd1 := hS.delay1
  have hb := lng_le c.sv.length h4
  have hB : BIG = 1152921504606846976 := rfl
  have he := (serve_eq c hS slot (traceId slot k) c.sv.length 0 (by omega) (by omega) m (by omega) 0 (1000 * slot + 7 * k) [] (by simp only [List.length_nil]; omega) (by omega) (by rw [hB]; omega)).1
  unfold traceV
  cases hsv : c.sv with
  | nil => rw [hsv] at h0; simp at h0
  | cons x r =>
    have hx : x.f0 = nm4 0 := by
      have := hS.name 0 (by omega)
      simpa [hsv] using this
    dsimp only
    rw [if_pos ⟨hs0, by omega, hk0, by omega, hd0, by omega⟩, hx, ← hsv]
    rw [show slot * 1048576 + 1 + k = traceId slot k from rfl, he]
    rfl
def slotTr (c : Cfg) (f : Sp → Sp) (s : Int) : List Tr := (List.range c.per.toNat).map fun (k : Nat) => ⟨traceId s k, (traceI c s k).map f⟩
def tracesI (c : Cfg) (f : Sp → Sp) : List Tr := (List.range (c.sto - c.sfrom).toNat).flatMap fun (i : Nat) => slotTr c f (c.sfrom + i)
theorem trK_eq (c : Cfg) (hS : Sys c) (f : Sp → Sp) (s : Int) (m : Nat) (hm : 110 ≤ m) (hs0 : 0 ≤ s) (hs1 : s ≤ 1000) (j : Nat) : ∀ (k : Nat) (acc : List Tr), k + j ≤ 1000 → acc.length + j ≤ 100000 →
    trK (traceV m c s) f j (k : Int) acc = some (acc ++ (List.range' k j).map fun (k : Nat) => ⟨traceId s k, (traceI c s k).map f⟩) := by
  induction j with
  | zero => intro k acc _ _; simp [trK]
  | succ j ih =>
    intro k acc hk ha
    simp only [trK]
    rw [if_pos (by omega), trace_eq c hS s k m hm hs0 hs1 (by omega) (by omega)]
    simp only [Option.bind_some]
    obtain ⟨a, r, e, ht⟩ := traceI_cons c hS s k
    have h := ih (k + 1) (acc ++ [⟨traceId s k, (traceI c s k).map f⟩]) (by omega) (by simp; omega)
    rw [e] at h ⊢
    dsimp only
    rw [ht, show (k : Int) + 1 = ((k + 1 : Nat) : Int) from rfl, h, List.range'_succ]
    simp [e]
theorem trS_eq (c : Cfg) (hS : Sys c) (f : Sp → Sp) (m : Nat) (hm : 110 ≤ m) (hp : c.per.toNat ≤ 1000) (j : Nat) : ∀ (i : Nat) (s : Int) (acc : List Tr), 0 ≤ s → s + j ≤ 1000 → acc.length + j * c.per.toNat ≤ 100000 →
    trS m c f j s acc = some (acc ++ (List.range j).flatMap fun (i : Nat) => slotTr c f (s + i)) := by
  induction j with
  | zero => intro i s acc _ _ _; simp [trS]
  | succ j ih =>
    intro i s acc h0 h1 ha
    have hm1 : (j + 1) * c.per.toNat = j * c.per.toNat + c.per.toNat := Nat.succ_mul _ _
    simp only [trS]
    have hk := trK_eq c hS f s m hm h0 (by omega) c.per.toNat 0 acc (by omega) (by omega)
    rw [show ((0 : Nat) : Int) = 0 from rfl] at hk
    rw [hk]
    simp only [Option.bind_some]
    rw [ih i (s + 1) _ (by omega) (by omega) (by simp; omega), ← List.range_eq_range']
    rw [List.range_succ_eq_map, List.flatMap_cons, List.flatMap_map]
    rw [List.append_assoc]
    have e : (fun i : Nat => slotTr c f (s + 1 + i)) = fun a : Nat => slotTr c f (s + (Nat.succ a : Nat)) := by
      funext a
      rw [show s + 1 + (a : Int) = s + ((Nat.succ a : Nat) : Int) from by omega]
    rw [e]
    simp [slotTr]
theorem traces_eq (c : Cfg) (hS : Sys c) (f : Sp → Sp) (h0 : 0 ≤ c.sfrom) (h1 : c.sto ≤ 100) (hp : c.per ≤ 10) (m : Nat) (hm : 110 ≤ m) : tracesV m c f = some (tracesI c f) := by
  unfold tracesV
  rw [if_pos ⟨h0, by omega, by omega⟩]
  have hb : (c.sto - c.sfrom).toNat * c.per.toNat ≤ 100 * 10 := Nat.mul_le_mul (by omega) (by omega)
  by_cases hs : c.sfrom ≤ c.sto
  · have := trS_eq c hS f m hm (by omega) (c.sto - c.sfrom).toNat 0 c.sfrom [] h0 (by omega) (by simp only [List.length_nil]; omega)
    rw [this]; rfl
  · have : (c.sto - c.sfrom).toNat = 0 := by omega
    unfold tracesI
    rw [this]; rfl
theorem plan_traces (p : Plan) (hok : PlanOk p) (f : Sp → Sp) (m : Nat) (hm : 110 ≤ m) : tracesV m (p.cfg chgs47) f = some (tracesI (p.cfg chgs47) f) := by
  refine traces_eq _ (plan_sys p hok) f ?_ ?_ ?_ m hm <;> simp only [Plan.cfg] <;> omega
theorem tracesI_mem (c : Cfg) (f : Sp → Sp) (x : Tr) (h : x ∈ tracesI c f) : ∃ s k : Int, c.sfrom ≤ s ∧ s < c.sto ∧ 0 ≤ k ∧ k < c.per ∧ x = ⟨traceId s k, (traceI c s k).map f⟩ := by
  unfold tracesI at h
  obtain ⟨i, hi, hx⟩ := List.mem_flatMap.mp h
  unfold slotTr at hx
  obtain ⟨k, hk, rfl⟩ := List.mem_map.mp hx
  have := List.mem_range.mp hi
  have := List.mem_range.mp hk
  exact ⟨c.sfrom + i, k, by omega, by omega, by omega, by omega, rfl⟩
structure FoAt (i : Int) (e : Bool) (len : Nat) (L : List Sp) (k : Nat) (h : k < L.length) : Prop where
  id : L[k].id = (len : Int) + 1 + k
  kind : L[k].kind = 2 ∨ L[k].kind = 3
  up : (L[k].par = i ∧ (L[k].err = true → e = true)) ∨ ∃ j, ∃ hj : j < k, L[k].par = (len : Int) + 1 + j ∧ (L[k].err = true → (L[j]'(Nat.lt_trans hj h)).err = true)
  down : L[k].kind = 2 → L[k].err = true → ∃ j, ∃ hj : j < L.length, L[j].par = L[k].id ∧ L[j].err = true ∧ L[j].kind = 3
def Fo (i : Int) (e : Bool) (len : Nat) (L : List Sp) : Prop := ∀ k (h : k < L.length), FoAt i e len L k h
theorem Fo.nil (i : Int) (e : Bool) (len : Nat) : Fo i e len [] := fun k h => absurd h (Nat.not_lt_zero _)
theorem Fo.mono {i : Int} {e e' : Bool} {len : Nat} {L : List Sp} (h : Fo i e len L) (he : e = true → e' = true) : Fo i e' len L := fun k hk => by
  obtain ⟨h1, h2, h3, h4⟩ := h k hk
  refine ⟨h1, h2, ?_, h4⟩
  rcases h3 with ⟨a, b⟩ | h3
  · exact .inl ⟨a, fun hb => he (b hb)⟩
  · exact .inr h3
theorem Fo.app {i : Int} {e : Bool} {len : Nat} {L M : List Sp} (h : Fo i e len L) (g : Fo i e (len + L.length) M) : Fo i e len (L ++ M) := fun k hk => by
  by_cases hl : k < L.length
  · obtain ⟨h1, h2, h3, h4⟩ := h k hl
    have e1 : (L ++ M)[k] = L[k] := List.getElem_append_left hl
    refine ⟨by rw [e1]; exact h1, by rw [e1]; exact h2, ?_, ?_⟩
    · rw [e1]
      rcases h3 with h3 | ⟨j, hj, a, b⟩
      · exact .inl h3
      · refine .inr ⟨j, hj, a, fun hb => ?_⟩
        rw [List.getElem_append_left (by omega)]
        exact b hb
    · rw [e1]
      intro a b
      obtain ⟨j, hj, c⟩ := h4 a b
      refine ⟨j, by rw [List.length_append]; omega, ?_⟩
      rw [List.getElem_append_left hj]
      exact c
  · have hm : k - L.length < M.length := by rw [List.length_append] at hk; omega
    obtain ⟨h1, h2, h3, h4⟩ := g (k - L.length) hm
    have e1 : (L ++ M)[k] = M[k - L.length] := List.getElem_append_right (by omega)
    refine ⟨by rw [e1, h1]; clear h1 h2 h3 h4 e1; omega, by rw [e1]; exact h2, ?_, ?_⟩
    · rw [e1]
      rcases h3 with h3 | ⟨j, hj, a, b⟩
      · exact .inl h3
      · refine .inr ⟨L.length + j, by omega, by rw [a]; omega, fun hb => ?_⟩
        rw [List.getElem_append_right (by omega)]
        have := b hb
        simpa using this
    · rw [e1]
      intro a b
      obtain ⟨j, hj, c⟩ := h4 a b
      refine ⟨L.length + j, by rw [List.length_append]; omega, ?_⟩
      rw [List.getElem_append_right (by omega)]
      simpa using c
theorem Fo.cons {i : Int} {e : Bool} {len : Nat} {s : Sp} {L : List Sp} (hid : s.id = (len : Int) + 1) (hk : s.kind = 2 ∨ s.kind = 3) (hp : s.par = i) (he : s.err = true → e = true) (hL : Fo s.id s.err (len + 1) L)
    (hd : s.kind = 2 → s.err = true → ∃ r t, L = t :: r ∧ t.kind = 3 ∧ t.par = s.id ∧ t.err = true) : Fo i e len (s :: L) := fun k h => by
  match k with
  | 0 =>
    refine ⟨by simpa using hid, by simpa using hk, .inl ⟨by simpa using hp, by simpa using he⟩, fun a b => ?_⟩
    obtain ⟨r, t, rfl, h1, h2, h3⟩ := hd a b
    exact ⟨1, by simp, by simpa using h2, by simpa using h3, by simpa using h1⟩
  | k + 1 =>
    have hk' : k < L.length := by simpa using h
    obtain ⟨h1, h2, h3, h4⟩ := hL k hk'
    refine ⟨?_, ?_, ?_, ?_⟩
    · simp only [List.getElem_cons_succ]; rw [h1]; omega
    · simpa using h2
    · simp only [List.getElem_cons_succ]
      rcases h3 with ⟨a, b⟩ | ⟨j, hj, a, b⟩
      · exact .inr ⟨0, by omega, by rw [a, hid]; omega, fun hb => b hb⟩
      · exact .inr ⟨j + 1, by omega, by rw [a]; omega, fun hb => by simpa using b hb⟩
    · simp only [List.getElem_cons_succ]
      intro a b
      obtain ⟨j, hj, c⟩ := h4 a b
      exact ⟨j + 1, by simpa using hj, by simpa using c⟩
def RecFo (rec : ByteArray → Int → Int → Nat → Res) : Prop :=
  ∀ nm parent x len, Fo parent (rec nm parent x len).2.1 len (rec nm parent x len).2.2 ∧ ((rec nm parent x len).2.1 = true → ∃ r t, (rec nm parent x len).2.2 = t :: r ∧ t.kind = 3 ∧ t.par = parent ∧ t.err = true)
theorem calls_fo (seed delay t i : Int) (x : S64) (ver : ByteArray) (rec : ByteArray → Int → Int → Nat → Res) (hrec : RecFo rec) (cl : List ByteArray) : ∀ y fl len,
    (fl = true → (callsI seed delay t i x ver rec cl y fl len).2.1 = true) ∧ Fo i (callsI seed delay t i x ver rec cl y fl len).2.1 len (callsI seed delay t i x ver rec cl y fl len).2.2 := by
  induction cl with
  | nil => intro y fl len; exact ⟨fun h => h, Fo.nil _ _ _⟩
  | cons nm r ih =>
    intro y fl len
    simp only [callsI]
    obtain ⟨q1, q2⟩ := hrec nm ((len : Int) + 1) (y + delay + rollV seed t ((len : Int) + 1) 2 % (delay + 1)) (len + 1)
    generalize rec nm ((len : Int) + 1) (y + delay + rollV seed t ((len : Int) + 1) 2 % (delay + 1)) (len + 1) = q at q1 q2 ⊢
    obtain ⟨s1, s2⟩ := ih (q.1 + delay + rollV seed t ((len : Int) + 1) 3 % (delay + 1)) (fl || q.2.1) (len + 1 + q.2.2.length)
    generalize callsI seed delay t i x ver rec r (q.1 + delay + rollV seed t ((len : Int) + 1) 3 % (delay + 1)) (fl || q.2.1) (len + 1 + q.2.2.length) = s at s1 s2 ⊢
    refine ⟨fun h => s1 (by rw [h]; rfl), ?_⟩
    rw [← List.cons_append]
    refine Fo.app (Fo.cons rfl (.inl rfl) rfl (fun h => s1 ?_) q1 (fun _ h => q2 h)) ?_
    · have h' : q.2.1 = true := h
      rw [h']
      simp
    · rw [List.length_cons, show len + (q.2.2.length + 1) = len + 1 + q.2.2.length from by omega]
      exact s2
theorem serve_fo (c : Cfg) (slot t : Int) (d : Nat) : RecFo (serveI c slot t d) := by
  induction d with
  | zero => intro nm parent x len; exact ⟨Fo.nil _ _ _, fun h => by cases h⟩
  | succ d ih =>
    intro nm parent x len
    simp only [serveI]
    obtain ⟨s1, s2⟩ := calls_fo c.seed c.delay t ((len : Int) + 1) (rd_T64 c.sv (svIdx c.sv nm)) (actV c.ch (rd_T64 c.sv (svIdx c.sv nm)).f0 slot).2.2.2.2.2.1 (serveI c slot t d) ih (rd_T64 c.sv (svIdx c.sv nm)).f5 (x + (workV c slot t (rd_T64 c.sv (svIdx c.sv nm)) len).1 / 2) (decide (rollV c.seed t ((len : Int) + 1) 4 % 1000000 < (workV c slot t (rd_T64 c.sv (svIdx c.sv nm)) len).2)) (len + 1)
    generalize callsI c.seed c.delay t ((len : Int) + 1) (rd_T64 c.sv (svIdx c.sv nm)) (actV c.ch (rd_T64 c.sv (svIdx c.sv nm)).f0 slot).2.2.2.2.2.1 (serveI c slot t d) (rd_T64 c.sv (svIdx c.sv nm)).f5 (x + (workV c slot t (rd_T64 c.sv (svIdx c.sv nm)) len).1 / 2) (decide (rollV c.seed t ((len : Int) + 1) 4 % 1000000 < (workV c slot t (rd_T64 c.sv (svIdx c.sv nm)) len).2)) (len + 1) = q at s1 s2 ⊢
    refine ⟨Fo.cons rfl (.inr rfl) rfl (fun h => h) s2 (fun h => by dsimp only at h; omega), fun h => ⟨_, _, rfl, rfl, rfl, h⟩⟩
def failsV (l : List Sp) (id : Int) : List Sp := l.filter fun t => t.par == id && (t.kind != 5 && t.err)
def originV (l : List Sp) (s : Sp) : Bool := s.err && (failsV l s.id).length == 0
def originsV (l : List Sp) : List Int := (l.filter (originV l)).map (·.id)
structure ErrOk (l : List Sp) : Prop where
  ne : 0 < l.length
  most : l.length ≤ 160
  par : ∀ k (h : k < l.length), 0 ≤ l[k].par ∧ l[k].par ≤ (k : Int)
  up : ∀ k (h : k < l.length) j (hj : j < l.length), l[k].par = (j : Int) + 1 → l[k].err = true → l[j].err = true
  root : ∀ k (h : k < l.length), l[k].err = true → (l[0]'ne).err = true
  org : ∀ x ∈ originsV l, ∃ j, ∃ hj : j < l.length, x = (j : Int) + 1 ∧ l[j].kind = 3
  some : (l[0]'ne).err = true → originsV l ≠ []
  none : (l[0]'ne).err = false → originsV l = []
theorem err_ok (l : List Sp) (e : Bool) (hF : Fo 0 e 0 l) (hne : 0 < l.length) (he : e = (l[0]'hne).err) (h160 : l.length ≤ 160) : ErrOk l := by
  have hroot : ∀ n k (h : k < l.length), k ≤ n → l[k].err = true → (l[0]'hne).err = true := by
    intro n
    induction n with
    | zero =>
      intro k h hk hb
      obtain rfl : k = 0 := by omega
      exact hb
    | succ n ih =>
      intro k h hk hb
      rcases (hF k h).up with ⟨_, b⟩ | ⟨j, hj, _, b⟩
      · rw [← he]; exact b hb
      · exact ih j (by omega) (by omega) (b hb)
  have hup : ∀ k (h : k < l.length) j (hj : j < l.length), l[k].par = (j : Int) + 1 → l[k].err = true → l[j].err = true := by
    intro k h j hj hp hb
    rcases (hF k h).up with ⟨a, _⟩ | ⟨j', hj', a, b⟩
    · omega
    · obtain rfl : j' = j := by omega
      exact b hb
  have hex : (∃ k, ∃ h : k < l.length, l[k].err = true) → ∃ k, ∃ h : k < l.length, l[k].err = true ∧ ∀ j (hj : j < l.length), l[j].err = true → j ≤ k := by
    rintro ⟨k, h, hb⟩
    have key : ∀ n k (h : k < l.length), l.length - k ≤ n → l[k].err = true → ∃ k, ∃ h : k < l.length, l[k].err = true ∧ ∀ j (hj : j < l.length), l[j].err = true → j ≤ k := by
      intro n
      induction n with
      | zero => intro k h hk _; omega
      | succ n ih =>
        intro k h hk hb
        by_cases hm : ∀ j (hj : j < l.length), l[j].err = true → j ≤ k
        · exact ⟨k, h, hb, hm⟩
        · simp only [Classical.not_forall] at hm
          obtain ⟨j, hj, hbj, hjk⟩ := hm
          exact ih j hj (by omega) hbj
    exact key l.length k h (by omega) hb
  refine ⟨hne, h160, ?_, hup, fun k h hb => hroot k k h (Nat.le_refl _) hb, ?_, ?_, ?_⟩
  · intro k h
    rcases (hF k h).up with ⟨a, _⟩ | ⟨j, hj, a, _⟩ <;> omega
  · intro x hx
    unfold originsV at hx
    obtain ⟨s, hs, rfl⟩ := List.mem_map.mp hx
    obtain ⟨hs, ho⟩ := List.mem_filter.mp hs
    obtain ⟨j, hj, rfl⟩ := List.getElem_of_mem hs
    refine ⟨j, hj, ?_, ?_⟩
    · rw [(hF j hj).id]; omega
    · rcases (hF j hj).kind with h2 | h3
      · exfalso
        unfold originV at ho
        simp only [Bool.and_eq_true, beq_iff_eq] at ho
        obtain ⟨q, hq, a, b, c⟩ := (hF j hj).down h2 ho.1
        have hm : l[q] ∈ failsV l l[j].id := by
          unfold failsV
          refine List.mem_filter.mpr ⟨List.getElem_mem _, ?_⟩
          rw [a, b, c]
          simp
        have := List.length_pos_of_mem hm
        omega
      · exact h3
  · intro hb hnil
    obtain ⟨k, h, hbk, hmax⟩ := hex ⟨0, hne, hb⟩
    have : l[k].id ∈ originsV l := by
      unfold originsV
      refine List.mem_map.mpr ⟨l[k], List.mem_filter.mpr ⟨List.getElem_mem _, ?_⟩, rfl⟩
      unfold originV
      rw [hbk, Bool.true_and]
      have hnone : failsV l l[k].id = [] := by
        unfold failsV
        refine List.filter_eq_nil_iff.mpr (fun t ht hc => ?_)
        obtain ⟨j, hj, rfl⟩ := List.getElem_of_mem ht
        simp only [Bool.and_eq_true, beq_iff_eq] at hc
        have hle := hmax j hj hc.2.2
        have hid := (hF k h).id
        rcases (hF j hj).up with ⟨a, _⟩ | ⟨j', hj', a, _⟩ <;> omega
      rw [hnone]
      rfl
    rw [hnil] at this
    cases this
  · intro hb
    unfold originsV
    rw [List.filter_eq_nil_iff.mpr]
    · rfl
    · intro s hs
      obtain ⟨j, hj, rfl⟩ := List.getElem_of_mem hs
      intro ho
      unfold originV at ho
      simp only [Bool.and_eq_true] at ho
      have := hroot j j hj (Nat.le_refl _) ho.1
      rw [hb] at this
      cases this
theorem trace_err (c : Cfg) (hS : Sys c) (slot k : Int) (hs0 : 0 ≤ slot) (hs1 : slot ≤ 1000) (hk0 : 0 ≤ k) (hk1 : k ≤ 1000) : ErrOk (traceI c slot k) := by
  have hb := lng_le c.sv.length hS.n4
  have h0 := hS.n0
  have hB : BIG = 1152921504606846976 := rfl
  have hlen := (serve_eq c hS slot (traceId slot k) c.sv.length 0 (by omega) (by omega) 200 (by have := hS.n4; omega) 0 (1000 * slot + 7 * k) [] (by simp only [List.length_nil]; omega) (by omega) (by rw [hB]; omega)).2.2.2
  simp only [List.length_nil] at hlen
  obtain ⟨s, r, hc, _⟩ := traceI_cons c hS slot k
  obtain ⟨f1, f2⟩ := serve_fo c slot (traceId slot k) c.sv.length (nm4 0) 0 (1000 * slot + 7 * k) 0
  have e1 : (serveI c slot (traceId slot k) c.sv.length (nm4 0) 0 (1000 * slot + 7 * k) 0).2.2 = traceI c slot k := rfl
  rw [e1] at f1 f2 hlen
  generalize (serveI c slot (traceId slot k) c.sv.length (nm4 0) 0 (1000 * slot + 7 * k) 0).2.1 = e at f1 f2
  have hne : 0 < (traceI c slot k).length := by rw [hc]; simp
  refine err_ok _ e f1 hne ?_ (by omega)
  cases he : e with
  | true =>
    obtain ⟨r', t', h1, _, _, h2⟩ := f2 he
    simp only [h1, List.getElem_cons_zero, h2]
  | false =>
    cases hx : ((traceI c slot k)[0]'hne).err with
    | false => rfl
    | true =>
      rcases (f1 0 hne).up with ⟨_, b⟩ | ⟨j, hj, _⟩
      · have := b hx
        rw [he] at this
        cases this
      · omega
theorem traces_errs (c : Cfg) (hS : Sys c) (h0 : 0 ≤ c.sfrom) (h1 : c.sto ≤ 100) (hp : c.per ≤ 10) (x : Tr) (hx : x ∈ tracesI c id) : ErrOk x.l := by
  obtain ⟨s, k, b0, b1, b2, b3, rfl⟩ := tracesI_mem c id x hx
  rw [List.map_id]
  exact trace_err c hS s k (by omega) (by omega) b2 (by omega)
theorem blocks_calls (s : Sp) (A12 : Option Addr) (c12 : Nat) (A13 : Option Addr) (c13 : Nat) (w : World) : Calls Try.prog 91 #[.agg (sv14 s A12 c12 A13 c13)] w fun e w' => e = .returned (.bool (s.kind != 5)) ∧ Below w.heap.size w w' := by
  go_enter Try.func91, Try.ntmps91
  go_wp2
  go_ret
  exact ⟨by first | rfl | simp, below_alloc (Below.refl _ _) _⟩
def delV (id : Int) (t : Sp) : Bool := !(t.par == id && (t.kind != 5 && t.err))
theorem del_calls (id : Int) (s : Sp) (A12 : Option Addr) (c12 : Nat) (A13 : Option Addr) (c13 : Nat) (a : Addr) (w : World) (hc : w.cell? a = some (.int .i64 id)) :
    Calls Try.prog 90 #[.agg (sv14 s A12 c12 A13 c13), .pointer (some a)] w fun e w' => e = .returned (.bool (delV id s)) ∧ Below w.heap.size w w' := by
  have hlt := World.block_lt_of_cell? w a hc
  have hne : a.block ≠ w.heap.size := by omega
  have HBL := Aside0.mk (fun W => blocks_calls s A12 c12 A13 c13 W)
  have hb0 : Below w.heap.size w (w.alloc (.cells (sv14 s A12 c12 A13 c13) 56)) := below_alloc (Below.refl _ _) _
  have hB := blk_new w (.cells (sv14 s A12 c12 A13 c13) 56)
  have hc1 := (hb0.cell hlt).trans hc
  by_cases h1 : s.par = id
  · have j1 : (s.par == id) = true := by simpa using h1
    have l1 : (s.par != id) = false := by simpa using h1
    have i1 := eq_true h1
    by_cases h2 : s.kind = 5
    · have j2 : (s.kind != 5) = false := by simpa using h2
      have e : delV id s = true := by unfold delV; rw [j1, j2]; rfl
      rw [e]
      clear h1 h2
      go_enter Try.func90, Try.ntmps90
      go_wp2_with fail
      refine (HBL.out _).mono ?_
      rintro e1 w1 ⟨rfl, hb⟩
      go_wp2_with fail
      go_ret
      exact ⟨by first | rfl | simp, below_step hb0 hb⟩
    · have j2 : (s.kind != 5) = true := by simpa using h2
      have e : delV id s = !s.err := by unfold delV; rw [j1, j2]; simp
      rw [e]
      clear h1 h2
      go_enter Try.func90, Try.ntmps90
      go_wp2_with fail
      refine (HBL.out _).mono ?_
      rintro e1 w1 ⟨rfl, hb⟩
      have y11 : w1.cell? ⟨w.heap.size, 11, none⟩ = some (.bool s.err) := (blk_cell (blk_below hB hb) 11).trans rfl
      go_wp2_with fail
      go_ret
      exact ⟨by first | rfl | simp, below_step hb0 hb⟩
  · have j1 : (s.par == id) = false := by simpa using h1
    have l1 : (s.par != id) = true := by simpa using h1
    have i1 := eq_false h1
    have e : delV id s = true := by unfold delV; rw [j1]; rfl
    rw [e]
    clear h1
    go_enter Try.func90, Try.ntmps90
    go_wp2_with fail
    go_ret
    exact ⟨by first | rfl | simp, hb0⟩
def RowsC (W : World) (g : Nat) (l : List Sp) (lo : Nat) : Prop := ∀ j (hj : j < l.length), lo ≤ j → ∃ (A12 : Option Addr) (c12 : Nat) (A13 : Option Addr) (c13 : Nat), ∀ f u, (sv14 l[j] A12 c12 A13 c13)[f]? = some u → W.cell? ⟨g, j * 14 + f, none⟩ = some u
structure RowG (W : World) (g n : Nat) : Prop where
  there : ∀ i, i < n * 14 → (W.cell? ⟨g, i, none⟩).isSome = true
  free : ∀ i, i < n * 14 → W.frozen? ⟨g, i, none⟩ = false
theorem RowsC.below {W W' : World} {g lo : Nat} {l : List Sp} (h : RowsC W g l lo) (hb : Below W.heap.size W W') : RowsC W' g l lo := fun j hj hlo => by
  obtain ⟨A, c, B, d, hc⟩ := h j hj hlo
  exact ⟨A, c, B, d, fun f u hu => (hb.cell (World.block_lt_of_cell? _ _ (hc f u hu))).trans (hc f u hu)⟩
theorem RowG.below {W W' : World} {g n : Nat} (h : RowG W g n) (hb : Below W.heap.size W W') (hg : g < W.heap.size) : RowG W' g n :=
  ⟨fun i hi => by rw [hb.cell (p := ⟨g, i, none⟩) hg]; exact h.there i hi, fun i hi => by
    have e := hb.block g hg
    have h2 := h.free i hi
    simp only [World.frozen?] at h2 ⊢
    rw [e]
    exact h2⟩
theorem span_at {w : World} {A : Option Addr} {l : List Sp} (h : Kd.C k56 w A l.length (l.map toS)) (j : Nat) (hj : j < l.length) : ∃ ad, A = some ad ∧ ∃ (A12 : Option Addr) (c12 : Nat) (A13 : Option Addr) (c13 : Nat), ∀ f u, (sv14 l[j] A12 c12 A13 c13)[f]? = some u → w.cell? (ad.add (j * 14 + f)) = some u := by
  obtain ⟨ad, c, e, _, hK, hc0⟩ := Kd.C_get h z56 (j : Int) (by omega) (by omega)
  have hr : (l.map toS).getD (j : Int).toNat z56 = toS l[j] := by
    rw [Int.toNat_natCast, List.getD_eq_getElem?_getD, List.getElem?_map, List.getElem?_eq_getElem hj]
    rfl
  rw [hr] at hK
  obtain ⟨A12, c12, A13, c13, rfl, _⟩ := k56_open hK
  refine ⟨ad, e, A12, c12, A13, c13, fun f u hu => ?_⟩
  have hc : ∀ f u, (sv14 l[j] A12 c12 A13 c13).toList[f]? = some u → w.cell? (ad.add ((j : Int).toNat * 14 + f)) = some u := hc0
  rw [Int.toNat_natCast] at hc
  exact hc f u (by rw [Array.getElem?_toList]; exact hu)
theorem sv14_one (s : Sp) (A12 : Option Addr) (c12 : Nat) (A13 : Option Addr) (c13 : Nat) (f : Nat) (hf : f < 14) : ∃ u, (sv14 s A12 c12 A13 c13)[f]? = some u ∧ u.oneCell' = true := by
  match f, hf with
  | 0, _ | 1, _ | 2, _ | 3, _ | 4, _ | 5, _ | 6, _ | 7, _ | 8, _ | 9, _ | 10, _ | 11, _ | 12, _ | 13, _ => exact ⟨_, rfl, rfl⟩
def rawCells (w : World) (ad : Addr) (n : Nat) : List Value := (List.range (n * 14)).map fun i => (w.cell? (ad.add i)).getD undef
theorem raw_at {w : World} {ad : Addr} {l : List Sp} (h : Kd.C k56 w (some ad) l.length (l.map toS)) (i : Nat) (hi : i < l.length * 14) : ∃ u, w.cell? (ad.add i) = some u ∧ u.oneCell' = true := by
  obtain ⟨ad', e, A12, c12, A13, c13, hc⟩ := span_at h (i / 14) (by omega)
  obtain rfl : ad = ad' := by injection e
  obtain ⟨u, hu, h1⟩ := sv14_one l[i / 14] A12 c12 A13 c13 (i % 14) (by omega)
  have := hc _ _ hu
  rw [show i / 14 * 14 + i % 14 = i from by omega] at this
  exact ⟨u, this, h1⟩
theorem raw_get (w : World) (ad : Addr) (n i : Nat) (hi : i < n * 14) : (rawCells w ad n)[i]? = some ((w.cell? (ad.add i)).getD undef) := by
  unfold rawCells
  rw [List.getElem?_map, List.getElem?_range hi]
  rfl
set_option maxHeartbeats 2000000 in
set_option maxRecDepth 100000 in
theorem clone_calls (ad : Addr) (c : Nat) (l : List Sp) (w : World) (hC : Kd.C k56 w (some ad) l.length (l.map toS)) (hl : l.length ≤ 1000) :
    Calls Try.prog 60 #[.slice (some ad) l.length c] w fun e w' => ∃ g cap : Nat, e = .returned (.slice (some ⟨g, 0, none⟩) l.length cap) ∧ w.heap.size ≤ g ∧ g < w'.heap.size ∧ l.length ≤ cap ∧ RowG w' g l.length ∧ RowsC w' g l 0 ∧ Below w.heap.size w w' := by
  have q49 : ∀ (w : World) (a : Option Addr) (n c n' c' : Nat), (binOp .eql 49 (.slice a n c) (.slice none n' c')).run Try.prog w = .ok (.bool a.isNone) w := fun w a n c n' c' => Lib.run_eql_slice_nil w _ _ a n c n' c' Try.underlying49
  obtain ⟨i0, hi0, hz⟩ := Option.map_eq_some_iff.1 info56
  simp only [Prod.mk.injEq] at hz
  obtain ⟨hz0, hz1, hz2⟩ := hz
  have HC := Aside0.mk hC
  have HI := Aside0.mk hi0
  have HZ0 := Aside0.mk hz0
  have HZ1 := Aside0.mk hz1
  have HZ2 := Aside0.mk hz2
  have hrl : (rawCells w ad l.length).length = l.length * 14 := by unfold rawCells; simp
  have HRL := Aside0.mk hrl
  clear hC hi0 hz0 hz1 hz2 hrl
  go_enter Try.func60, Try.ntmps60
  go_wp2_with (at_builtin; refine wpList_append_own _ rfl _ _ 49 rfl w.heap.size 56 i0 _ 14 168 Try.underlying49 HI.out HZ0.out HZ1.out HZ2.out rfl (by decide) _ _ _ rfl (World.ownsRow_made w #[] 0 (Nat.le_refl _) (Nat.zero_le _) (by simp)) ad l.length c (rawCells w ad l.length) rfl ?qc1 ?qc2 ?qc3 ?qc4 ?qc5 ?qc6 ?_)
  case qc1 => exact HRL.out
  case qc2 =>
    intro j u hj
    have hjl : j < l.length * 14 := by
      rw [← HRL.out]
      exact (List.getElem?_eq_some_iff.mp hj).1
    obtain ⟨u', h1, h2⟩ := raw_at HC.out j hjl
    rw [raw_get _ _ _ _ hjl, h1] at hj
    obtain rfl : u' = u := by simpa using hj
    exact Lib.cell?_alloc_some _ h1
  case qc3 =>
    intro u hu
    obtain ⟨j, hj, rfl⟩ := List.getElem_of_mem hu
    have hjl : j < l.length * 14 := by rw [← HRL.out]; exact hj
    obtain ⟨u', h1, h2⟩ := raw_at HC.out j hjl
    have e := raw_get w ad l.length j hjl
    rw [List.getElem?_eq_getElem hj, h1] at e
    have e2 : (rawCells w ad l.length)[j] = u' := by simpa using e
    rw [e2]
    exact h2
  case qc4 => rw [Nat.zero_add]; have : (1000 : Nat) ≤ maxLen := by decide
              omega
  case qc5 => omega
  case qc6 => simp
  intro v' w1 hown hgrow hnil
  have hbw : Below w.heap.size w w1 := ((Below.refl _ w).alloc (Nat.le_refl _) _).grown hgrow (by simp) (by intro k hk; simp [Value.ownBlock] at hk; omega)
  have hown' := hown
  rcases hown'.2 with ⟨h0, _⟩ | ⟨g, cap, cur, rfl, hg, hb, hn, hcap, hsz, htk⟩
  · exact absurd h0 hnil
  have hcell : ∀ i, i < l.length * 14 → w1.cell? ⟨g, i, none⟩ = w.cell? (ad.add i) := fun i hi => by
    obtain ⟨u, h1, h2⟩ := raw_at HC.out i hi
    have e := raw_get w ad l.length i hi
    rw [← htk, List.getElem?_take_of_lt hi, h1, Array.getElem?_toList] at e
    rw [h1, blk_cell hb i]
    exact e
  have HRG : Aside0 (RowG w1 g l.length) := ⟨⟨fun i hi => by
    rw [hcell i hi]
    obtain ⟨u, h1, h2⟩ := raw_at HC.out i hi
    rw [h1]; rfl, fun i _ => blk_frozen hb i⟩⟩
  have HRC : Aside0 (RowsC w1 g l 0) := ⟨fun j hj _ => by
    obtain ⟨ad', e, A, c, B, d, hc⟩ := span_at HC.out j hj
    obtain rfl : ad = ad' := by injection e
    refine ⟨A, c, B, d, fun f u hu => ?_⟩
    have hf : f < 14 := by
      have := (Array.getElem?_eq_some_iff.mp hu).1
      simpa using this
    rw [hcell _ (by omega)]
    exact hc f u hu⟩
  have HBW := Aside0.mk hbw
  have hgl := blk_lt hb
  clear hown hown' hgrow hnil hbw hcell hb htk hsz hcap
  go_wp2
  go_ret
  exact ⟨g, cap, rfl, hg, hgl, hn, HRG.out, HRC.out, HBW.out⟩
set_option maxHeartbeats 1000000 in
theorem idx121_calls (g0 c : Nat) (l : List Sp) (g : Nat) (lb : Array Value) (p : Sp → Bool) (w : World) (hn : l.length ≤ 1000) (hr : RowsC w g0 l 0)
    (eg : ∀ args w, (callFunc g args).run Try.prog w = .ok (.enter g args) w)
    (hp : ∀ (W : World) (x : Sp) (A12 : Option Addr) (c12 : Nat) (A13 : Option Addr) (c13 : Nat), Below w.heap.size w W → Calls Try.prog g (#[.agg (sv14 x A12 c12 A13 c13)] ++ lb) W fun e w' => e = .returned (.bool (p x)) ∧ Below W.heap.size W w') :
    Calls Try.prog 121 #[.slice (some ⟨g0, 0, none⟩) l.length c, .func (.func g) #[] lb] w fun e w' => e = .returned (.int .i64 (idxBy p l)) ∧ Below w.heap.size w w' := by
  have HR := Aside0.mk hr
  have HP := Aside0.mk hp
  clear hp hr
  go_enter Try.func121, Try.ntmps121
  go_wp2
  go_loopg [5, 8] l.length (fun gg _ s8 wr => ∃ kk : Nat, kk ≤ l.length ∧ l.length - kk ≤ gg ∧ s8 = .int .i64 kk ∧ Aside0 (Below w.heap.size w wr) ∧ Aside0 (∀ j (_ : j < kk) (hj : j < l.length), p l[j] = false))
  case atStart => exact ⟨0, Nat.zero_le _, by omega, rfl, ⟨Below.refl _ w⟩, ⟨fun j hj => absurd hj (Nat.not_lt_zero _)⟩⟩
  case round =>
    obtain ⟨kk, hkk, hg, rfl, BW, AN⟩ := hrel
    by_cases hlt : kk < l.length
    · obtain ⟨A12, c12, A13, c13, hcc⟩ := (HR.out.below BW.out) kk hlt (Nat.zero_le _)
      have h0 := hcc 0 _ rfl
      have h1 := hcc 1 _ rfl
      have h2 := hcc 2 _ rfl
      have h3 := hcc 3 _ rfl
      have h4 := hcc 4 _ rfl
      have h5 := hcc 5 _ rfl
      have h6 := hcc 6 _ rfl
      have h7 := hcc 7 _ rfl
      have h8 := hcc 8 _ rfl
      have h9 := hcc 9 _ rfl
      have h10 := hcc 10 _ rfl
      have h11 := hcc 11 _ rfl
      have h12 := hcc 12 _ rfl
      have h13 := hcc 13 _ rfl
      clear hcc
      have hcall := HP.out wr l[kk] A12 c12 A13 c13 BW.out
      have hltz : (kk : Int) < (l.length : Int) := by omega
      generalize hy : l[kk] = y at h0 h1 h2 h3 h4 h5 h6 h7 h8 h9 h10 h11 h12 h13 hcall
      have B := Aside0.mk hy
      clear hy
      simp only [Nat.add_zero] at h0
      cases hq : p y with
      | true =>
        rw [hq] at hcall
        go_wp2_with fail
        refine hcall.mono ?_
        rintro e w' ⟨rfl, hb'⟩
        go_wp2_with fail
        go_ret
        refine ⟨?_, below_step BW.out hb'⟩
        rw [idxBy_hit p l kk hlt (by rw [B.out]; exact hq) (fun j hj => AN.out j hj (by omega))]
        rfl
      | false =>
        rw [hq] at hcall
        go_wp2_with fail
        refine hcall.mono ?_
        rintro e w' ⟨rfl, hb'⟩
        go_wp2_with fail
        go_roundg (l.length - (kk + 1))
        case rel => exact ⟨kk + 1, by omega, Nat.le_refl _, by go_num, ⟨below_step BW.out hb'⟩, ⟨fun j hj hjl => by
          by_cases hjk : j < kk
          · exact AN.out j hjk hjl
          · obtain rfl : j = kk := by omega
            rw [B.out]; exact hq⟩⟩
        case measure => omega
    · obtain rfl : kk = l.length := by omega
      go_wp2
      go_ret
      exact ⟨by rw [idxBy_none p l (fun j hj => AN.out j hj hj)]; rfl, BW.out⟩
theorem eg90 : ∀ args w, (callFunc 90 args).run Try.prog w = .ok (.enter 90 args) w := fun args w => enters_ Try.func90 (by kernel_rfl) rfl args w
def keptV (id : Int) (l : List Sp) : List Sp := l.filter fun t => !delV id t
def zs56 : Array Value := #[.int .i64 0, .int .i64 0, .int .i64 0, .int .i64 0, .int .i64 0, .int .i64 0, .string ⟨#[]⟩, .string ⟨#[]⟩, .string ⟨#[]⟩, .int .i64 0, .int .i64 0, .bool false, .slice none 0 0, .slice none 0 0]
theorem zs_len (n : Nat) : (Builtin.zeroCells zs56 n).toList.length = n * 14 := by
  have h : zs56.size = 14 := rfl
  simp [Builtin.zeroCells, h]
theorem zs_one (n : Nat) : ∀ v ∈ (Builtin.zeroCells zs56 n).toList, v.oneCell' = true := by
  have h : zs56.size = 14 := rfl
  have key : ∀ k, k < 14 → (zs56[k]!).oneCell' = true := by
    intro k hk
    match k, hk with
    | 0, _ | 1, _ | 2, _ | 3, _ | 4, _ | 5, _ | 6, _ | 7, _ | 8, _ | 9, _ | 10, _ | 11, _ | 12, _ | 13, _ => rfl
  intro v hv
  simp only [Builtin.zeroCells, h, Array.toList_map, List.mem_map] at hv
  obtain ⟨i, _, rfl⟩ := hv
  exact key _ (Nat.mod_lt _ (by omega))
theorem run_clear56 (w : World) (b o n c : Nat) (hn : 0 < n) (hc : ∀ j, j < n * 14 → (w.cell? ⟨b, o + j, none⟩).isSome = true) (hf : ∀ j, j < n * 14 → w.frozen? ⟨b, o + j, none⟩ = false) :
    ∃ ZL : List Value, ∀ ty, (Builtin.clear_ #[49] ty #[.slice (some ⟨b, o, none⟩) n c]).run Try.prog w = .ok (.tuple #[]) (w.setCells b o ZL) := by
  have hv : ∀ w, (zeroValue 56).run Try.prog w = .ok (.agg zs56) w := Try.zeroValue56
  refine ⟨(Builtin.zeroCells zs56 n).toList, fun ty => ?_⟩
  obtain ⟨m, rfl⟩ : ∃ m, n = m + 1 := ⟨n - 1, by omega⟩
  have hst := run_storeCells_cells (P := Try.prog) b o (Builtin.zeroCells zs56 (m + 1)).toList 0 w (by rw [zs_len]; simpa using hc) (by rw [zs_len]; simpa using hf) (zs_one _)
  simp only [Nat.add_zero] at hst
  have hcs : Value.cells (.agg zs56) = zs56 := rfl
  simp [Builtin.clear_, run_underlying Try.underlying49, hv, hcs, hst]
theorem below_sets {B g : Nat} (hg : B ≤ g) : ∀ (vs : List Value) (o : Nat) (W : World), Below B W (W.setCells g o vs)
  | [], _, W => Below.refl _ _
  | v :: r, o, W => ((Below.refl B W).setCell (p := ⟨g, o, none⟩) hg v).trans (below_sets hg r (o + 1) _)
theorem sets14 {l : List Sp} {a : Addr} {lo g ii : Nat} {id : Int} {v1 : World} (vs : List Value) (hvs : vs.length = 14) (hlt : ii < lo) (ha : a.block ≠ g) (hA : v1.cell? a = some (.int .i64 id)) (hG : RowG v1 g l.length) (hR : RowsC v1 g l lo) :
    (v1.setCells g (ii * 14) vs).cell? a = some (.int .i64 id) ∧ RowG (v1.setCells g (ii * 14) vs) g l.length ∧ RowsC (v1.setCells g (ii * 14) vs) g l (lo + 1) ∧ Below g v1 (v1.setCells g (ii * 14) vs) := by
  refine ⟨?_, ⟨fun i hi => ?_, fun i hi => ?_⟩, fun j hj hlo => ?_, below_sets (Nat.le_refl _) _ _ _⟩
  · rw [World.cell?_setCells_out _ _ _ _ _ (fun h => absurd h ha)]
    exact hA
  · exact World.isSome_setCells _ _ _ _ _ (hG.there i hi)
  · rw [World.frozen?_setCells]
    exact hG.free i hi
  · obtain ⟨A, c, B, d, hc⟩ := hR j hj (by omega)
    refine ⟨A, c, B, d, fun f u hu => ?_⟩
    rw [World.cell?_setCells_out _ _ _ _ _ (fun _ _ => by right; rw [hvs]; show ii * 14 + 14 ≤ j * 14 + f; omega)]
    exact hc f u hu
set_option maxHeartbeats 2000000 in
set_option maxRecDepth 100000 in
theorem delfunc_calls (g cap : Nat) (l : List Sp) (id : Int) (a : Addr) (w : World) (hl : l.length ≤ 1000) (hcap : l.length ≤ cap) (hG : RowG w g l.length) (hR : RowsC w g l 0) (hgl : g < w.heap.size) (hc : w.cell? a = some (.int .i64 id)) (ha : a.block ≠ g) :
    Calls Try.prog 89 #[.slice (some ⟨g, 0, none⟩) l.length cap, .func (.func 90) #[] #[.pointer (some a)]] w fun e w' => ∃ cap' : Nat, e = .returned (.slice (some ⟨g, 0, none⟩) (keptV id l).length cap') ∧ Below g w w' := by
  have hal := World.block_lt_of_cell? w a hc
  have HG := Aside0.mk hG
  have HR := Aside0.mk hR
  have HAC := Aside0.mk hc
  have hix := idx121_calls g cap l 90 #[.pointer (some a)] (delV id) w hl hR eg90 (fun W x A12 c12 A13 c13 hb => del_calls id x A12 c12 A13 c13 a W ((hb.cell hal).trans hc))
  have HDC := Aside0.mk (fun W s A12 c12 A13 c13 (h : W.cell? a = some (.int .i64 id)) => del_calls id s A12 c12 A13 c13 a W h)
  clear hG hR hc
  go_enter Try.func89, Try.ntmps89
  go_wp2_with fail
  refine hix.mono ?_
  rintro e w1 ⟨rfl, hb1⟩
  clear hix
  by_cases hno : ∀ j (hj : j < l.length), delV id l[j] = false
  · have e := idxBy_none (delV id) l hno
    rw [e]
    have hk : keptV id l = l := by
      unfold keptV
      rw [List.filter_eq_self]
      intro t ht
      obtain ⟨j, hj, rfl⟩ := List.getElem_of_mem ht
      rw [hno j hj]
      rfl
    go_wp2
    go_ret
    exact ⟨cap, by rw [hk]; rfl, hb1.mono (by omega)⟩
  · obtain ⟨i0, hi0, hd0, hn0⟩ : ∃ k, ∃ hk : k < l.length, delV id l[k] = true ∧ ∀ j (hj : j < k), delV id (l[j]'(by omega)) = false := by
      have key : ∀ n k (h : k < l.length), k ≤ n → delV id l[k] = true → ∃ k, ∃ hk : k < l.length, delV id l[k] = true ∧ ∀ j (hj : j < k), delV id (l[j]'(by omega)) = false := by
        intro n
        induction n with
        | zero => intro k h hk hd; exact ⟨k, h, hd, fun j hj => by omega⟩
        | succ n ih =>
          intro k h hk hd
          by_cases hm : ∀ j (hj : j < k), delV id (l[j]'(by omega)) = false
          · exact ⟨k, h, hd, hm⟩
          · simp only [Classical.not_forall, Bool.not_eq_false] at hm
            obtain ⟨j, hj, hdj⟩ := hm
            exact ih j (by omega) (by omega) hdj
      simp only [Classical.not_forall, Bool.not_eq_false] at hno
      obtain ⟨k, hk, hd⟩ := hno
      exact key k k hk (Nat.le_refl _) hd
    clear hno
    have e := idxBy_hit (delV id) l i0 hi0 hd0 hn0
    rw [e]
    have hkt : ((l.take (i0 + 1)).filter fun t => !delV id t).length = i0 := by
      have h1 : (l.take i0).filter (fun t => !delV id t) = l.take i0 := by
        rw [List.filter_eq_self]
        intro t ht
        obtain ⟨j, hj, rfl⟩ := List.getElem_of_mem ht
        rw [List.getElem_take, hn0 j (by rw [List.length_take] at hj; omega)]
        rfl
      rw [List.take_succ_eq_append_getElem hi0, List.filter_append, h1]
      simp [hd0]
      omega
    have HB1 := Aside0.mk (hb1.mono (show g ≤ w.heap.size by omega))
    have HG1 := Aside0.mk (HG.out.below hb1 hgl)
    have HR1 : Aside0 (RowsC w1 g l (i0 + 1)) := ⟨fun j hj _ => (HR.out.below hb1) j hj (Nat.zero_le _)⟩
    have HA1 := Aside0.mk ((hb1.cell hal).trans HAC.out)
    have hgl1 : g < w1.heap.size := Nat.lt_of_lt_of_le hgl hb1.size
    have hal1 : a.block < w1.heap.size := Nat.lt_of_lt_of_le hal hb1.size
    clear hb1 HG HR HAC e hd0 hn0
    have hi1 : ((i0 : Int) == -1) = false := by first | (simp; done) | (simp; omega)
    go_wp2_with fail
    go_loopg [5, 6, 7] l.length (fun gg s5 s6 s7 wr => ∃ (ii jj : Nat), s5 = .int .i64 (ii : Int) ∧ s6 = .int .i64 (jj : Int) ∧ jj ≤ l.length ∧ ii < jj ∧ l.length - jj ≤ gg ∧ Aside0 (((l.take jj).filter fun t => !delV id t).length = ii) ∧ Aside0 (Below g w wr) ∧ Aside0 (RowG wr g l.length) ∧ Aside0 (RowsC wr g l jj) ∧ Aside0 (wr.cell? a = some (.int .i64 id)) ∧ g < wr.heap.size)
    case atStart => exact ⟨i0, i0 + 1, rfl, by first | rfl | go_num, by omega, by omega, by omega, ⟨hkt⟩, HB1, HG1, HR1, HA1, hgl1⟩
    case round =>
    clear HB1 HG1 HR1 HA1 hgl1 hal1
    obtain ⟨ii, jj, rfl, rfl, hjj, hij, hgj, HK, HB, HGr, HRr, HAr, hgr⟩ := hrel
    by_cases hlt : jj < l.length
    · obtain ⟨A12, c12, A13, c13, hcc⟩ := HRr.out jj hlt (Nat.le_refl _)
      have h0 := hcc 0 _ rfl
      have h1 := hcc 1 _ rfl
      have h2 := hcc 2 _ rfl
      have h3 := hcc 3 _ rfl
      have h4 := hcc 4 _ rfl
      have h5 := hcc 5 _ rfl
      have h6 := hcc 6 _ rfl
      have h7 := hcc 7 _ rfl
      have h8 := hcc 8 _ rfl
      have h9 := hcc 9 _ rfl
      have h10 := hcc 10 _ rfl
      have h11 := hcc 11 _ rfl
      have h12 := hcc 12 _ rfl
      have h13 := hcc 13 _ rfl
      clear hcc
      have hltz : (jj : Int) < (l.length : Int) := by omega
      have HDJ := Aside0.mk (fun W h => HDC.out W l[jj] A12 c12 A13 c13 h)
      have hnx : ((l.take (jj + 1)).filter fun t => !delV id t).length = ii + (if delV id l[jj] then 0 else 1) := by
        rw [List.take_succ_eq_append_getElem hlt, List.filter_append, List.length_append, HK.out]
        cases hd : delV id l[jj] <;> simp [hd]
      have HNX := Aside0.mk hnx
      clear hnx HK
      generalize l[jj] = y at h0 h1 h2 h3 h4 h5 h6 h7 h8 h9 h10 h11 h12 h13 HDJ HNX
      simp only [Nat.add_zero] at h0
      go_upto_region 8 with fail
      have hbn : Below wr.heap.size wr (wr.alloc (.cells (sv14 y A12 c12 A13 c13) 56)) := below_alloc (Below.refl _ _) _
      have HBX := Aside0.mk (blk_new wr (.cells (sv14 y A12 c12 A13 c13) 56))
      have HA2 := Aside0.mk ((hbn.cell (World.block_lt_of_cell? _ _ HAr.out)).trans HAr.out)
      have HB2 := Aside0.mk (HB.out.trans (hbn.mono (show g ≤ wr.heap.size by omega)))
      have HG2 := Aside0.mk (HGr.out.below hbn hgr)
      have HR2 := Aside0.mk (HRr.out.below hbn)
      have hgx : g ≠ wr.heap.size := by omega
      have hg2 : g < (wr.alloc (.cells (sv14 y A12 c12 A13 c13) 56)).heap.size := Nat.lt_of_lt_of_le hgr hbn.size
      clear hbn h0 h1 h2 h3 h4 h5 h6 h7 h8 h9 h10 h11 h12 h13 HAr HB HGr HRr hgr
      change Code.wp _ _ _ _ (wr.alloc (.cells (sv14 y A12 c12 A13 c13) 56))
      generalize hgb : wr.heap.size = gb at HBX hgx ⊢
      clear hgb
      generalize wr.alloc (.cells (sv14 y A12 c12 A13 c13) 56) = v0 at HBX HA2 HB2 HG2 HR2 hg2 ⊢
      have y0 : v0.cell? ⟨gb, 0, none⟩ = some (.int .i64 y.tr) := (blk_cell HBX.out 0).trans rfl
      have y1 : v0.cell? ⟨gb, 1, none⟩ = some (.int .i64 y.id) := (blk_cell HBX.out 1).trans rfl
      have y2 : v0.cell? ⟨gb, 2, none⟩ = some (.int .i64 y.par) := (blk_cell HBX.out 2).trans rfl
      have y3 : v0.cell? ⟨gb, 3, none⟩ = some (.int .i64 y.rev) := (blk_cell HBX.out 3).trans rfl
      have y4 : v0.cell? ⟨gb, 4, none⟩ = some (.int .i64 y.clk) := (blk_cell HBX.out 4).trans rfl
      have y5 : v0.cell? ⟨gb, 5, none⟩ = some (.int .i64 y.kind) := (blk_cell HBX.out 5).trans rfl
      have y6 : v0.cell? ⟨gb, 6, none⟩ = some (.string y.svc) := (blk_cell HBX.out 6).trans rfl
      have y7 : v0.cell? ⟨gb, 7, none⟩ = some (.string y.ver) := (blk_cell HBX.out 7).trans rfl
      have y8 : v0.cell? ⟨gb, 8, none⟩ = some (.string y.op) := (blk_cell HBX.out 8).trans rfl
      have y9 : v0.cell? ⟨gb, 9, none⟩ = some (.int .i64 y.st) := (blk_cell HBX.out 9).trans rfl
      have y10 : v0.cell? ⟨gb, 10, none⟩ = some (.int .i64 y.en) := (blk_cell HBX.out 10).trans rfl
      have y11 : v0.cell? ⟨gb, 11, none⟩ = some (.bool y.err) := (blk_cell HBX.out 11).trans rfl
      have y12 : v0.cell? ⟨gb, 12, none⟩ = some (.slice A12 0 c12) := (blk_cell HBX.out 12).trans rfl
      have y13 : v0.cell? ⟨gb, 13, none⟩ = some (.slice A13 0 c13) := (blk_cell HBX.out 13).trans rfl
      go_wp2_with fail
      refine (HDJ.out _ HA2.out).mono ?_
      rintro e v1 ⟨rfl, hb2⟩
      have HA3 := Aside0.mk ((hb2.cell (World.block_lt_of_cell? _ _ HA2.out)).trans HA2.out)
      have HB3 := Aside0.mk (HB2.out.trans (hb2.mono (show g ≤ v0.heap.size by omega)))
      have HG3 := Aside0.mk (HG2.out.below hb2 hg2)
      have HR3 := Aside0.mk (HR2.out.below hb2)
      have HBX3 := Aside0.mk (blk_below HBX.out hb2)
      have hg3 : g < v1.heap.size := Nat.lt_of_lt_of_le hg2 hb2.size
      clear hb2 y0 y1 y2 y3 y4 y5 y6 y7 y8 y9 y10 y11 y12 y13 HA2 HB2 HG2 HR2 HBX hg2 HDJ
      cases hd : delV id y with
      | true =>
        rw [hd] at HNX
        go_wp2_with fail
        go_roundg (l.length - (jj + 1))
        case measure => omega
        case rel => exact ⟨ii, jj + 1, rfl, by first | rfl | go_num, by omega, by omega, by omega, ⟨by rw [HNX.out]; simp⟩, HB3, HG3, ⟨fun j hj hlo => HR3.out j hj (by omega)⟩, HA3, hg3⟩
      | false =>
        rw [hd] at HNX
        have y0 : v1.cell? ⟨gb, 0, none⟩ = some (.int .i64 y.tr) := (blk_cell HBX3.out 0).trans rfl
        have y1 : v1.cell? ⟨gb, 1, none⟩ = some (.int .i64 y.id) := (blk_cell HBX3.out 1).trans rfl
        have y2 : v1.cell? ⟨gb, 2, none⟩ = some (.int .i64 y.par) := (blk_cell HBX3.out 2).trans rfl
        have y3 : v1.cell? ⟨gb, 3, none⟩ = some (.int .i64 y.rev) := (blk_cell HBX3.out 3).trans rfl
        have y4 : v1.cell? ⟨gb, 4, none⟩ = some (.int .i64 y.clk) := (blk_cell HBX3.out 4).trans rfl
        have y5 : v1.cell? ⟨gb, 5, none⟩ = some (.int .i64 y.kind) := (blk_cell HBX3.out 5).trans rfl
        have y6 : v1.cell? ⟨gb, 6, none⟩ = some (.string y.svc) := (blk_cell HBX3.out 6).trans rfl
        have y7 : v1.cell? ⟨gb, 7, none⟩ = some (.string y.ver) := (blk_cell HBX3.out 7).trans rfl
        have y8 : v1.cell? ⟨gb, 8, none⟩ = some (.string y.op) := (blk_cell HBX3.out 8).trans rfl
        have y9 : v1.cell? ⟨gb, 9, none⟩ = some (.int .i64 y.st) := (blk_cell HBX3.out 9).trans rfl
        have y10 : v1.cell? ⟨gb, 10, none⟩ = some (.int .i64 y.en) := (blk_cell HBX3.out 10).trans rfl
        have y11 : v1.cell? ⟨gb, 11, none⟩ = some (.bool y.err) := (blk_cell HBX3.out 11).trans rfl
        have y12 : v1.cell? ⟨gb, 12, none⟩ = some (.slice A12 0 c12) := (blk_cell HBX3.out 12).trans rfl
        have y13 : v1.cell? ⟨gb, 13, none⟩ = some (.slice A13 0 c13) := (blk_cell HBX3.out 13).trans rfl
        have hii : ii < l.length := by omega
        have hiz : (ii : Int) < (l.length : Int) := by omega
        obtain ⟨u0, e0⟩ := Option.isSome_iff_exists.1 (HG3.out.there (ii * 14 + 0) (by omega))
        have z0 := HG3.out.free (ii * 14 + 0) (by omega)
        obtain ⟨u1, e1⟩ := Option.isSome_iff_exists.1 (HG3.out.there (ii * 14 + 1) (by omega))
        have z1 := HG3.out.free (ii * 14 + 1) (by omega)
        obtain ⟨u2, e2⟩ := Option.isSome_iff_exists.1 (HG3.out.there (ii * 14 + 2) (by omega))
        have z2 := HG3.out.free (ii * 14 + 2) (by omega)
        obtain ⟨u3, e3⟩ := Option.isSome_iff_exists.1 (HG3.out.there (ii * 14 + 3) (by omega))
        have z3 := HG3.out.free (ii * 14 + 3) (by omega)
        obtain ⟨u4, e4⟩ := Option.isSome_iff_exists.1 (HG3.out.there (ii * 14 + 4) (by omega))
        have z4 := HG3.out.free (ii * 14 + 4) (by omega)
        obtain ⟨u5, e5⟩ := Option.isSome_iff_exists.1 (HG3.out.there (ii * 14 + 5) (by omega))
        have z5 := HG3.out.free (ii * 14 + 5) (by omega)
        obtain ⟨u6, e6⟩ := Option.isSome_iff_exists.1 (HG3.out.there (ii * 14 + 6) (by omega))
        have z6 := HG3.out.free (ii * 14 + 6) (by omega)
        obtain ⟨u7, e7⟩ := Option.isSome_iff_exists.1 (HG3.out.there (ii * 14 + 7) (by omega))
        have z7 := HG3.out.free (ii * 14 + 7) (by omega)
        obtain ⟨u8, e8⟩ := Option.isSome_iff_exists.1 (HG3.out.there (ii * 14 + 8) (by omega))
        have z8 := HG3.out.free (ii * 14 + 8) (by omega)
        obtain ⟨u9, e9⟩ := Option.isSome_iff_exists.1 (HG3.out.there (ii * 14 + 9) (by omega))
        have z9 := HG3.out.free (ii * 14 + 9) (by omega)
        obtain ⟨u10, e10⟩ := Option.isSome_iff_exists.1 (HG3.out.there (ii * 14 + 10) (by omega))
        have z10 := HG3.out.free (ii * 14 + 10) (by omega)
        obtain ⟨u11, e11⟩ := Option.isSome_iff_exists.1 (HG3.out.there (ii * 14 + 11) (by omega))
        have z11 := HG3.out.free (ii * 14 + 11) (by omega)
        obtain ⟨u12, e12⟩ := Option.isSome_iff_exists.1 (HG3.out.there (ii * 14 + 12) (by omega))
        have z12 := HG3.out.free (ii * 14 + 12) (by omega)
        obtain ⟨u13, e13⟩ := Option.isSome_iff_exists.1 (HG3.out.there (ii * 14 + 13) (by omega))
        have z13 := HG3.out.free (ii * 14 + 13) (by omega)
        simp only [Nat.add_zero] at e0 z0
        go_upto_region 10 with fail
        have HW := sets14 (l := l) (a := a) (lo := jj) (v1 := v1) (g := g) (ii := ii) (id := id) (sv14 y A12 c12 A13 c13).toList rfl (by omega) ha HA3.out HG3.out HR3.out
        obtain ⟨hs1, hs2, hs3, hs4⟩ := HW
        have HA4 := Aside0.mk hs1
        have HG4 := Aside0.mk hs2
        have HR4 := Aside0.mk hs3
        have HB4 := Aside0.mk (HB3.out.trans hs4)
        have hg4 : g < (v1.setCells g (ii * 14) (sv14 y A12 c12 A13 c13).toList).heap.size := Nat.lt_of_lt_of_le hg3 hs4.size
        change Code.wp _ _ _ _ (v1.setCells g (ii * 14) (sv14 y A12 c12 A13 c13).toList)
        clear y0 e0 z0 u0 y1 e1 z1 u1 y2 e2 z2 u2 y3 e3 z3 u3 y4 e4 z4 u4 y5 e5 z5 u5 y6 e6 z6 u6 y7 e7 z7 u7 y8 e8 z8 u8 y9 e9 z9 u9 y10 e10 z10 u10 y11 e11 z11 u11 y12 e12 z12 u12 y13 e13 z13 u13 hs1 hs2 hs3 hs4 HA3 HB3 HG3 HR3 HBX3 hg3
        generalize v1.setCells g (ii * 14) (sv14 y A12 c12 A13 c13).toList = v2 at HA4 HG4 HR4 HB4 hg4 ⊢
        go_wp2_with fail
        go_roundg (l.length - (jj + 1))
        case measure => omega
        case rel => exact ⟨ii + 1, jj + 1, by first | rfl | go_num, by first | rfl | go_num, by omega, by omega, by omega, ⟨by rw [HNX.out]; simp⟩, HB4, HG4, HR4, HA4, hg4⟩
    · obtain rfl : jj = l.length := by omega
      have hz1 : decide (l.length < l.length) = false := by simp
      have hk : (keptV id l).length = ii := by
        have := HK.out
        rw [List.take_length] at this
        exact this
      have HKV := Aside0.mk hk
      clear hlt hk HK HRr
      have x1 : ((0 : Int) ≤ (ii : Int)) = True := eq_true (by omega)
      have x2 : ((ii : Int) ≤ (l.length : Int)) = True := eq_true (by omega)
      have x3 : (cap = ii) = False := eq_false (by omega)
      have x4 : ii ≤ l.length := by omega
      obtain ⟨ZL, hZ⟩ := run_clear56 wr g (ii * 14) (l.length - ii) (cap - ii) (by omega) (fun j hj => HGr.out.there _ (by omega)) (fun j hj => HGr.out.free _ (by omega))
      have hbz := below_sets (Nat.le_refl g) ZL (ii * 14) wr
      have HBZ := Aside0.mk (HB.out.trans hbz)
      clear hbz HGr HAr HB
      generalize wr.setCells g (ii * 14) ZL = v2 at hZ HBZ
      go_wp2
      go_ret
      exact ⟨cap, by rw [HKV.out]; rfl, HBZ.out⟩
end Go.Proofs.Ytdadnapfecmmdaa.P
namespace Go.Proofs.Ytdadnapfecmmdaa.P
set_option linter.unusedVariables false
set_option linter.unusedSimpArgs false
open Go.RowKit Go.Proofs.YtdadnapfecmmdaaW.PrintWords
open Go.Shelf
def sortRen : Ren where
  f := fun x => match x with
    | 189 => 46
    | 125 => 76
    | 257 => 75
    | 128 => 101
    | 129 => 102
    | 294 => 92
    | 295 => 93
    | 296 => 94
    | 297 => 95
    | 298 => 96
    | 299 => 97
    | 216 => 98
    | 300 => 99
    | 301 => 100
    | 328 => 122
    | 329 => 123
    | 330 => 124
    | 331 => 125
    | 332 => 126
    | 215 => 83
    | 343 => 134
    | n => n
  t := fun x => match x with
    | 28 => 47
    | 3 => 3
    | 46 => 89
    | 0 => 0
    | 51 => 22
    | 53 => 134
    | 4 => 4
    | 183 => 167
    | 182 => 166
    | 131 => 80
    | 5 => 5
    | 9 => 9
    | 218 => 190
    | 222 => 194
    | 228 => 205
    | 229 => 206
    | n => n
  g := fun x => x
theorem laysSort : Lays.n189 Try.prog sortRen where
  mixed := by kernel_rfl
  f125 := Eq.trans Try.func76 (congrArg some (by kernel_rfl))
  f128 := Eq.trans Try.func101 (congrArg some (by kernel_rfl))
  f129 := Eq.trans Try.func102 (congrArg some (by kernel_rfl))
  f189 := Eq.trans Try.func46 (congrArg some (by kernel_rfl))
  f215 := Eq.trans Try.func83 (congrArg some (by kernel_rfl))
  f216 := Eq.trans Try.func98 (congrArg some (by kernel_rfl))
  f257 := Eq.trans Try.func75 (congrArg some (by kernel_rfl))
  f294 := Eq.trans Try.func92 (congrArg some (by kernel_rfl))
  f295 := Eq.trans Try.func93 (congrArg some (by kernel_rfl))
  f296 := Eq.trans Try.func94 (congrArg some (by kernel_rfl))
  f297 := Eq.trans Try.func95 (congrArg some (by kernel_rfl))
  f298 := Eq.trans Try.func96 (congrArg some (by kernel_rfl))
  f299 := Eq.trans Try.func97 (congrArg some (by kernel_rfl))
  f300 := Eq.trans Try.func99 (congrArg some (by kernel_rfl))
  f301 := Eq.trans Try.func100 (congrArg some (by kernel_rfl))
  f328 := Eq.trans Try.func122 (congrArg some (by kernel_rfl))
  f329 := Eq.trans Try.func123 (congrArg some (by kernel_rfl))
  f330 := Eq.trans Try.func124 (congrArg some (by kernel_rfl))
  f331 := Eq.trans Try.func125 (congrArg some (by kernel_rfl))
  f332 := Eq.trans Try.func126 (congrArg some (by kernel_rfl))
  f343 := Eq.trans Try.func134 (congrArg some (by kernel_rfl))
  t0 := Try.underlying0
  a0 := Try.isAgg0
  z0 := Try.sizeOf0
  v0 := Try.zeroValue0
  t3 := Try.underlying3
  a3 := Try.isAgg3
  z3 := Try.sizeOf3
  v3 := Try.zeroValue3
  t4 := Try.underlying4
  a4 := Try.isAgg4
  z4 := Try.sizeOf4
  v4 := Try.zeroValue4
  t5 := Try.underlying5
  a5 := Try.isAgg5
  z5 := Try.sizeOf5
  v5 := Try.zeroValue5
  t9 := Try.underlying9
  a9 := Try.isAgg9
  z9 := Try.sizeOf9
  v9 := Try.zeroValue9
  t28 := Try.underlying47
  a28 := Try.isAgg47
  z28 := Try.sizeOf47
  v28 := Try.zeroValue47
  t46 := Try.underlying89
  a46 := Try.isAgg89
  z46 := Try.sizeOf89
  v46 := Try.zeroValue89
  t51 := Try.underlying22
  a51 := Try.isAgg22
  z51 := Try.sizeOf22
  v51 := Try.zeroValue22
  t53 := Try.underlying134
  a53 := Try.isAgg134
  z53 := Try.sizeOf134
  v53 := Try.zeroValue134
  t131 := Try.underlying80
  a131 := Try.isAgg80
  z131 := Try.sizeOf80
  v131 := Try.zeroValue80
  t182 := Try.underlying166
  a182 := Try.isAgg166
  z182 := Try.sizeOf166
  v182 := Try.zeroValue166
  t183 := Try.underlying167
  a183 := Try.isAgg167
  z183 := Try.sizeOf167
  v183 := Try.zeroValue167
  t218 := Try.underlying190
  a218 := Try.isAgg190
  z218 := Try.sizeOf190
  v218 := Try.zeroValue190
  t222 := Try.underlying194
  a222 := Try.isAgg194
  z222 := Try.sizeOf194
  v222 := Try.zeroValue194
  t228 := Try.underlying205
  a228 := Try.isAgg205
  z228 := Try.sizeOf205
  v228 := Try.zeroValue205
  t229 := Try.underlying206
  a229 := Try.isAgg206
  z229 := Try.sizeOf206
  v229 := Try.zeroValue206
theorem sort_none (p : Option Addr) (cap : Nat) (w : World) : Calls Try.prog 46 #[.slice p 0 cap] w fun e w' => e = .returned (.tuple #[]) ∧ w' = w :=
  calls_of_every_depth fun D => AnyS.slices_Sort_int_none_in laysSort D p cap w
theorem sort_int (blk off cap : Nat) (zs : List Int) (w : World) (hH : Go.Sort.Holds (Value.int .i64) w blk off zs.toArray) (hblk : blk < w.heap.size) (hsz : zs.length < 4611686018427387904) :
    Calls Try.prog 46 #[.slice (some ⟨blk, off, none⟩) zs.length cap] w fun e w' =>
      e = .returned (.tuple #[]) ∧ ∃ n os, w' = Go.Sort.grow (Go.Sort.putRow (Value.int .i64) (Sort.ahead w n) blk off (zs.mergeSort fun x y => decide (x ≤ y)).toArray) os :=
  Any.slices_Sort_int laysSort blk off cap zs w hH hblk hsz
end Go.Proofs.Ytdadnapfecmmdaa.P
