/- Own texts of a proof about layer 55's simulate (merged): Va, Vc, Vb, Sr, Fm, Vd, Ve, Vf, Fp, PF116, PF117. -/
import Derived.Test.YtdadnapfecmmdaaKf10
import Derived.Test.YtdadnapfecmmdaaKf12
import Derived.Test.YtdadnapfecmmdaaKf2
import Derived.Test.YtdadnapfecmmdaaKf3
import Derived.Test.YtdadnapfecmmdaaKf9
namespace Go.Proofs.Ytdadnapfecmmdaa.P
set_option linter.unusedVariables false
open Go.RowKit Go.Proofs.YtdadnapfecmmdaaW.PrintWords Go.Proofs.YtdadnapfecmmdaaW.PrintLast Go.Proofs.YtdadnapfecmmdaaW.PrintMore
theorem w1 (i : Int) (h0 : 0 ≤ i) (h1 : i ≤ 1000000) : wrap64 (i + 1) = i + 1 := by unfold wrap64; omega
end Go.Proofs.Ytdadnapfecmmdaa.P
namespace Go.Proofs.Ytdadnapfecmmdaa.P
set_option linter.unusedVariables false
set_option linter.unusedSimpArgs false
open Go.RowKit Go.Proofs.YtdadnapfecmmdaaW.PrintWords Go.Proofs.YtdadnapfecmmdaaW.PrintLast Go.Proofs.YtdadnapfecmmdaaW.PrintMore
open Go.Proofs.Ytdadnapfecmmdaa.Hm
theorem cmpInt_ord (a b : Int) : cmp_Compare_int.f a b = some (ordV a b) := by
  unfold cmp_Compare_int.f cmp_isNaN_int.f ordV
  simp only [Option.bind_some, bne_self_eq_false, Bool.false_eq_true, if_false]
  split
  · rfl
  · split <;> rfl
theorem or_first (l : List Int) (hl : l.length ≤ 1000) (d : Nat) : ∀ i : Nat, i + d = l.length → ∀ k, d + 1 ≤ k → cmp_Or_int.l0 k 0 l (l.length : Int) (i : Int) = some (firstNz (l.drop i)) := by
  induction d with
  | zero =>
    intro i hi k hk
    obtain ⟨k, rfl⟩ : ∃ m, k = m + 1 := ⟨k - 1, by omega⟩
    simp only [cmp_Or_int.l0]
    rw [if_neg (by omega), List.drop_of_length_le (by omega)]
    rfl
  | succ d ih =>
    intro i hi k hk
    obtain ⟨k, rfl⟩ : ∃ m, k = m + 1 := ⟨k - 1, by omega⟩
    have hr : rd l (i : Int) = l[i] := by unfold rd; simp [List.getD_eq_getElem?_getD, show i < l.length by omega]
    simp only [cmp_Or_int.l0]
    rw [if_pos (by omega), if_pos (by omega), if_pos (by omega), hr, firstNz_drop l i (by omega), w1 _ (by omega) (by omega)]
    by_cases h : l[i] = 0
    · rw [if_pos h, if_pos h]
      exact ih (i + 1) (by omega) k (by omega)
    · rw [if_neg h, if_neg h]
theorem chgCmp_eq (a b : S100) : chgCmp a b = cmp47 a b := by
  unfold chgCmp deployment_Compare.f cmp_Compare_string.f cmp_Or_int.f
  simp only [cmpInt_ord, Option.bind_some]
  have h := or_first [ordV a.f2 b.f2, ordV a.f0 b.f0, ordV a.f1 b.f1, cmpStr a.f3 b.f3, cmpStr a.f4 b.f4, cmpStr a.f5 b.f5] (by simp) 6 0 (by simp) 10 (by omega)
  rw [show ((0 : Nat) : Int) = 0 from rfl] at h
  rw [h]
  rfl
def lexlt (a b : S100) : Prop := a.f2 < b.f2 ∨ (a.f2 = b.f2 ∧ a.f0 < b.f0)
theorem cmp47_lt (a b : S100) (hne : a.f0 ≠ b.f0) : cmp47 a b < 0 ↔ lexlt a b := by
  unfold cmp47 lexlt
  simp only [firstNz, ordV]
  by_cases h1 : a.f2 < b.f2
  · simp [h1]
  · by_cases h2 : a.f2 > b.f2
    · simp [h1, h2]; omega
    · have h3 : a.f2 = b.f2 := by omega
      by_cases h4 : a.f0 < b.f0
      · simp [h3, h4]
      · have h5 : a.f0 > b.f0 := by omega
        simp [h3, h4, h5]
def Apart (a b : S100) : Prop := lexlt a b ∧ a.f0 ≠ b.f0
theorem lexlt_trans {a b c : S100} (h : lexlt a b) (k : lexlt b c) : lexlt a c := by
  unfold lexlt at *
  omega
theorem lexlt_total {a b : S100} (hne : a.f0 ≠ b.f0) (h : ¬ lexlt a b) : lexlt b a := by
  unfold lexlt at *
  omega
theorem ins_mem (x : S100) (l : List S100) (k : Nat) (z : S100) (h : z ∈ l.take k ++ [x] ++ l.drop k) : z ∈ l ∨ z = x := by
  simp only [List.mem_append, List.mem_singleton] at h
  rcases h with (h | h) | h
  · exact .inl (List.mem_of_mem_take h)
  · exact .inr h
  · exact .inl (List.mem_of_mem_drop h)
theorem ins_apart (x : S100) (l : List S100) (hp : l.Pairwise Apart) (hne : ∀ y ∈ l, y.f0 ≠ x.f0) : (l.take (insAt x l) ++ [x] ++ l.drop (insAt x l)).Pairwise Apart := by
  induction l with
  | nil => simp [insAt]
  | cons y r ih =>
    have hy := hne y (by simp)
    rw [List.pairwise_cons] at hp
    by_cases hc : cmp47 y x < 0
    · have e : insAt x (y :: r) = insAt x r + 1 := by simp only [insAt]; rw [if_pos hc]
      rw [e]
      simp only [List.take_succ_cons, List.drop_succ_cons, List.cons_append]
      rw [List.pairwise_cons]
      refine ⟨fun z hz => ?_, ih hp.2 (fun z hz => hne z (by simp [hz]))⟩
      rcases ins_mem x r _ z hz with h | h
      · exact hp.1 z h
      · rw [h]; exact ⟨(cmp47_lt y x hy).mp hc, hy⟩
    · have e : insAt x (y :: r) = 0 := by simp only [insAt]; rw [if_neg hc]
      rw [e]
      simp only [List.take_zero, List.drop_zero, List.nil_append, List.singleton_append]
      have hxy : lexlt x y := lexlt_total hy (fun h => hc ((cmp47_lt y x hy).mpr h))
      rw [List.pairwise_cons]
      refine ⟨fun z hz => ?_, List.pairwise_cons.mpr hp⟩
      rcases List.mem_cons.mp hz with h | h
      · rw [h]; exact ⟨hxy, Ne.symm hy⟩
      · exact ⟨lexlt_trans hxy (hp.1 z h).1, Ne.symm (hne z (by simp [h]))⟩
theorem insNew_true (x : S100) (l : List S100) (hne : ∀ y ∈ l, y.f0 ≠ x.f0) : insNew x l = true := by
  unfold insNew
  split
  · rfl
  · rename_i h
    have hk : insAt x l < l.length := by have := insAt_le x l; omega
    have e : rd_T100 l (insAt x l : Int) = l[insAt x l] := by unfold rd_T100; simp [List.getD_eq_getElem?_getD, hk]
    have hm := hne l[insAt x l] (List.getElem_mem hk)
    rw [e]
    have : (l[insAt x l].f0 == x.f0) = false := by simpa using hm
    unfold same100
    rw [this]
    rfl
theorem srt_inv (ok : S100 → Prop) (l : List S100) (hid : ∀ i (h : i < l.length), l[i].f0 = (i : Int) + 1) (hok : ∀ x ∈ l, ok x) (k : Nat) (hk : k ≤ l.length) :
    (srt47 (l.take k)).Pairwise Apart ∧ ∀ y ∈ srt47 (l.take k), ok y ∧ 1 ≤ y.f0 ∧ y.f0 ≤ (k : Int) := by
  induction k with
  | zero => simp [srt47]
  | succ k ih =>
    obtain ⟨h1, h2⟩ := ih (by omega)
    have e : rd_T100 l (k : Int) = l[k] := by unfold rd_T100; simp [List.getD_eq_getElem?_getD, show k < l.length by omega]
    have hk1 := hid k (by omega)
    rw [srt47_take l k (by omega), e]
    have hne : ∀ y ∈ srt47 (l.take k), y.f0 ≠ l[k].f0 := fun y hy => by have := (h2 y hy).2.2; rw [hk1]; omega
    unfold ins47
    rw [if_pos (insNew_true _ _ hne)]
    refine ⟨ins_apart _ _ h1 hne, fun y hy => ?_⟩
    rcases ins_mem _ _ _ y hy with h | h
    · obtain ⟨a, b, c⟩ := h2 y h
      exact ⟨a, b, by omega⟩
    · rw [h, hk1]
      exact ⟨hok _ (List.getElem_mem _), by omega, by omega⟩
theorem depCk_ok (l : List S100) (hp : l.Pairwise Apart) (hok : ∀ y ∈ l, chkOne y = 0) (n : Nat) : ∀ (m : List (Int × Bool)) (i : Nat), i + n = l.length → (∀ id, mget m id ≠ none → ∃ j, ∃ h : j < l.length, j < i ∧ l[j].f0 = id) → depCk l m i n = 0 := by
  induction n with
  | zero => intro m i _ _; rfl
  | succ n ih =>
    intro m i hi hm
    have hil : i < l.length := by omega
    have e : rd_T100 l (i : Int) = l[i] := by unfold rd_T100; simp [List.getD_eq_getElem?_getD, hil]
    have hpw := List.pairwise_iff_getElem.mp hp
    simp only [depCk, e]
    rw [if_neg (by rw [hok _ (List.getElem_mem hil)]; simp), if_neg, if_neg]
    · refine ih _ (i + 1) (by omega) (fun id hid => ?_)
      by_cases h : id = l[i].f0
      · exact ⟨i, hil, by omega, h.symm⟩
      · rw [mget_put_other _ _ _ _ h] at hid
        obtain ⟨j, hj, hji, he⟩ := hm id hid
        exact ⟨j, hj, by omega, he⟩
    · intro h
      obtain ⟨j, hj, hji, he⟩ := hm l[i].f0 (fun hn => by rw [hn] at h; simp at h)
      exact (hpw j i hj hil hji).2 he
    · rintro ⟨h0, h1⟩
      have e2 : rd_T100 l ((i : Int) - 1) = l[i - 1] := by
        rw [show (i : Int) - 1 = ((i - 1 : Nat) : Int) from by omega]
        unfold rd_T100; simp [List.getD_eq_getElem?_getD, show i - 1 < l.length by omega]
      have hap := hpw (i - 1) i (by omega) hil (by omega)
      rw [e2, chgCmp_eq, cmp47_lt _ _ (Ne.symm hap.2)] at h1
      have := hap.1
      unfold lexlt at h1 this
      omega
theorem name_ok (s : ByteArray) (h : s = nmW ∨ s = nmA ∨ s = nmD ∨ s = nmC ∨ s = ⟨#[118, 49]⟩ ∨ s = ⟨#[118, 50]⟩ ∨ s = ⟨#[118, 51]⟩) : NameOk s := by
  rcases h with rfl | rfl | rfl | rfl | rfl | rfl | rfl <;> exact NameOk.of (by kernel_rfl)
theorem nm47_ok (i : Nat) : NameOk (nm47 i) := by
  match i with
  | 0 => exact name_ok _ (by simp [nm47])
  | 1 => exact name_ok _ (by simp [nm47])
  | 2 => exact name_ok _ (by simp [nm47])
  | _ + 3 => exact name_ok _ (by simp [nm47])
theorem ver47_ok (i : Nat) : NameOk (ver47 i) := by
  match i with
  | 0 => exact name_ok _ (by simp [ver47])
  | 1 => exact name_ok _ (by simp [ver47])
  | _ + 2 => exact name_ok _ (by simp [ver47])
theorem chkOne_ok (c : S100) (a0 : 1 ≤ c.f0) (a1 : c.f0 ≤ 1000) (b0 : 0 ≤ c.f2) (b1 : c.f2 ≤ 1000) (hs : NameOk c.f3)
    (h : (c.f1 = 1 ∧ c.f4 = ⟨#[]⟩ ∧ NameOk c.f5) ∨ ((c.f1 = 2 ∨ c.f1 = 3) ∧ c.f5 = ⟨#[]⟩ ∧ NameOk c.f4)) : chkOne c = 0 := by
  obtain ⟨f0, f1, f2, f3, f4, f5⟩ := c
  dsimp only at *
  have key : ∀ (must other : ByteArray), other = ⟨#[]⟩ → NameOk must → 1 ≤ f1 → f1 ≤ 3 → deployment_checkOne.j0 79 must other f0 f1 f2 f3 f4 f5 = some 0 := by
    intro must other ho hm g0 g1
    have e1 : ¬ (f0 > 1099511627776) := by omega
    have e2 : ¬ (f1 > 3) := by omega
    have e3 : ¬ (f2 > 1048576) := by omega
    simp only [deployment_checkOne.j0]
    rw [if_neg (by omega), show decide (f0 > 1099511627776) = false from by simpa using e1]
    simp only [deployment_checkOne.j1, Bool.false_eq_true, if_false]
    rw [if_neg (by omega), show decide (f1 > 3) = false from by simpa using e2]
    simp only [deployment_checkOne.j2, Bool.false_eq_true, if_false]
    rw [if_neg (by omega), show decide (f2 > 1048576) = false from by simpa using e3]
    simp only [deployment_checkOne.j3, Bool.false_eq_true, if_false]
    rw [hs 75 (by omega)]
    simp only [Option.bind_some, if_true]
    rw [if_pos (by rw [ho]; kernel_rfl), hm 75 (by omega)]
    rfl
  unfold chkOne deployment_checkOne.f
  rcases h with ⟨h1, h2, h3⟩ | ⟨h1, h2, h3⟩
  · dsimp only
    rw [if_pos h1, key f5 f4 h2 h3 (by omega) (by omega)]
    rfl
  · dsimp only
    rw [if_neg (by omega), key f4 f5 h2 h3 (by omega) (by omega)]
    rfl
theorem chgOf_ok (x : S93) (id : Int) (a0 : 1 ≤ id) (a1 : id ≤ 1000) : chkOne (chgOf x id) = 0 ∧ (chgOf x id).f0 = id := by
  unfold chgOf
  split
  · exact ⟨chkOne_ok _ a0 a1 (by dsimp only; omega) (by dsimp only; omega) (nm47_ok _) (.inl ⟨rfl, rfl, ver47_ok _⟩), rfl⟩
  · refine ⟨chkOne_ok _ a0 a1 (by dsimp only; omega) (by dsimp only; omega) (nm47_ok _) (.inr ⟨?_, rfl, nm47_ok _⟩), rfl⟩
    dsimp only
    omega
theorem mkChgs_get (l : List S93) (k i : Nat) (h : i < (mkChgs l k).length) : (mkChgs l k)[i] = chgOf (rd_T93 l i) ((i : Int) + 1) := by
  simp [mkChgs]
theorem mkChgs_inv (l : List S93) : (chgs47 l).Pairwise Apart ∧ ∀ y ∈ chgs47 l, (chkOne y = 0 ∧ ∃ x, ∃ id, y = chgOf x id) ∧ 1 ≤ y.f0 ∧ y.f0 ≤ (min l.length 12 : Nat) := by
  have hl := mkChgs_len l (min l.length 12)
  have h := srt_inv (fun y => chkOne y = 0 ∧ ∃ x, ∃ id, y = chgOf x id) (mkChgs l (min l.length 12))
    (fun i hi => by rw [mkChgs_get]; rw [hl] at hi; exact (chgOf_ok _ _ (by omega) (by omega)).2)
    (fun x hx => by
      obtain ⟨i, hi, rfl⟩ := List.getElem_of_mem hx
      rw [mkChgs_get]
      rw [hl] at hi
      exact ⟨(chgOf_ok _ _ (by omega) (by omega)).1, _, _, rfl⟩) (min l.length 12) (by omega)
  rw [List.take_of_length_le (by omega)] at h
  exact h
theorem chgs_len (l : List S93) : (chgs47 l).length ≤ 12 := by
  unfold chgs47
  have hl := mkChgs_len l (min l.length 12)
  have := srt47_len (mkChgs l (min l.length 12)) (min l.length 12) (by omega)
  rw [List.take_of_length_le (by omega)] at this
  omega
theorem depCheck_ok (l : List S93) : depCheck (chgs47 l) = 0 := by
  unfold depCheck
  have := chgs_len l
  rw [if_neg (by omega)]
  exact depCk_ok _ (mkChgs_inv l).1 (fun y hy => ((mkChgs_inv l).2 y hy).1.1) _ [] 0 (by omega) (fun id h => absurd rfl h)
theorem nm4_ok (i : Nat) : NameOk (nm4 i) := by
  match i with
  | 0 => exact name_ok _ (by simp [nm4])
  | 1 => exact name_ok _ (by simp [nm4])
  | 2 => exact name_ok _ (by simp [nm4])
  | _ + 3 => exact name_ok _ (by simp [nm4])
theorem nm4_all : ((List.range 4).all fun i => (List.range 4).all fun j => ((nm4 i).toList == (nm4 j).toList) == decide (i = j)) = true := by kernel_rfl
theorem nm4_eq (i j : Nat) (hi : i < 4) (hj : j < 4) : ((nm4 i).toList == (nm4 j).toList) = decide (i = j) := by
  have h := List.all_eq_true.mp (List.all_eq_true.mp nm4_all i (List.mem_range.mpr hi)) j (List.mem_range.mpr hj)
  exact beq_iff_eq.mp h
theorem nm4_inj (i j : Nat) (hi : i < 4) (hj : j < 4) (h : nm4 i = nm4 j) : i = j := by
  have := nm4_eq i j hi hj
  rw [h] at this
  simpa using this
section
variable (p : Plan)
theorem plan_n0 : 1 ≤ p.n := by
  unfold Plan.n Plan.ps
  split
  · simp
  · rename_i h
    have := List.length_pos_iff.mpr h
    omega
theorem plan_n4 : p.n ≤ 4 := by unfold Plan.n; omega
theorem sv_len : p.sv.length = p.n := by simp [Plan.sv]
theorem sv_get (i : Nat) (h : i < p.sv.length) : p.sv[i] = svOf p.n i (rd_T87 p.ps i) := by simp [Plan.sv]
theorem sv_idx (j : Nat) (h : j < p.n) : svIdx p.sv (nm4 j) = (j : Int) := by
  have h4 := plan_n4 p
  have hl := sv_len p
  unfold svIdx
  refine idxBy_hit _ _ j (by omega) ?_ (fun i hi => ?_)
  · rw [sv_get]; simp [svOf]
  · rw [sv_get]
    simp only [svOf]
    rw [nm4_eq i j (by omega) (by omega)]
    simp; omega
theorem calls_mem (n i : Nat) (b : Int) (k : Nat) (nm : ByteArray) (h : nm ∈ callsOf n i b k) : ∃ j, i < j ∧ j < n ∧ nm = nm4 j := by
  unfold callsOf at h
  obtain ⟨j, hj, rfl⟩ := List.mem_map.mp h
  have := (List.mem_filter.mp hj).2
  simp only [Bool.and_eq_true, decide_eq_true_eq] at this
  exact ⟨i + 1 + j, by omega, this.1, rfl⟩
def bnd : Nat → Int
  | 0 => 0
  | d + 1 => 4 + 3 * bnd d
theorem bnd_range (d : Nat) (h : d ≤ 4) : 0 ≤ bnd d ∧ bnd d ≤ 160 := by
  match d, h with
  | 0, _ => decide
  | 1, _ => decide
  | 2, _ => decide
  | 3, _ => decide
  | 4, _ => decide
theorem cntSum_le (m : List (ByteArray × Int)) (B : Int) (hB : B ≤ 1000) (hm : ∀ x, 0 ≤ cntName m x ∧ cntName m x ≤ B) (l : List ByteArray) (hl : l.length ≤ 3) : 1 ≤ cntSum m l 1 ∧ cntSum m l 1 ≤ 4 + 3 * B := by
  have e : ∀ x : ByteArray, ∀ n : Int, 0 ≤ n → n ≤ 10000 → wrap64 (n + wrap64 (1 + cntName m x)) = n + (1 + cntName m x) := by
    intro x n h0 h1
    have := hm x
    unfold wrap64; omega
  match l, hl with
  | [], _ => simp only [cntSum]; have := hm ByteArray.empty; omega
  | [x], _ =>
    have := hm x
    simp only [cntSum]
    rw [e x 1 (by omega) (by omega)]
    omega
  | [x, y], _ =>
    have := hm x
    have := hm y
    simp only [cntSum]
    rw [e x 1 (by omega) (by omega), e y _ (by omega) (by omega)]
    omega
  | [x, y, z], _ =>
    have := hm x
    have := hm y
    have := hm z
    simp only [cntSum]
    rw [e x 1 (by omega) (by omega), e y _ (by omega) (by omega), e z _ (by omega) (by omega)]
    omega
  | _ :: _ :: _ :: _ :: _, h => simp at h
theorem cntMap_le (l : List S64) (hl : ∀ x ∈ l, x.f5.length ≤ 3) (h4 : l.length ≤ 4) : ∀ nm, 0 ≤ cntName (cntMap l) nm ∧ cntName (cntMap l) nm ≤ bnd l.length := by
  induction l with
  | nil => intro nm; simp [cntName, cntMap, mget, bnd]
  | cons s r ih =>
    intro nm
    simp only [List.length_cons] at h4
    have ih' := ih (fun x hx => hl x (by simp [hx])) (by omega)
    have hb := bnd_range r.length (by omega)
    have hs := cntSum_le (cntMap r) (bnd r.length) (by omega) ih' s.f5 (hl s (by simp))
    simp only [cntMap, List.length_cons, bnd]
    by_cases h : nm = s.f0
    · subst h
      unfold cntName
      rw [mget_put_same]
      simp only [Option.getD_some]
      omega
    · have e : cntName (mput (cntMap r) s.f0 (cntSum (cntMap r) s.f5 1)) nm = cntName (cntMap r) nm := by unfold cntName; rw [mget_put_other _ _ _ _ h]
      rw [e]
      have := ih' nm
      omega
theorem cfg_cnt : cntOf p.sv ≤ 256 := by
  have h4 := plan_n4 p
  have hl := sv_len p
  have h := cntMap_le p.sv (fun x hx => by
    obtain ⟨i, hi, rfl⟩ := List.getElem_of_mem hx
    rw [sv_get]
    exact callsOf_len _ _ _ _) (by omega) (rd_T64 p.sv 0).f0
  have hb := bnd_range p.sv.length (by omega)
  unfold cntOf
  omega
theorem off_gap (i : Nat) (h : i < p.sv.length) : (offOf p.offs (p.sv[i]).f1).2 = true := by
  rw [sv_get]
  simp only [svOf]
  have h0 : 1 + (rd_T87 p.ps i).f0 % 3 = 1 ∨ 1 + (rd_T87 p.ps i).f0 % 3 = 2 ∨ 1 + (rd_T87 p.ps i).f0 % 3 = 3 := by omega
  unfold offOf offIdx Plan.offs
  rcases h0 with h0 | h0 | h0 <;> rw [h0]
  · rw [idxBy_hit _ _ 0 (by simp) (by simp) (fun j hj => by omega)]; simp
  · rw [idxBy_hit _ _ 1 (by simp) (by simp) (fun j hj => by obtain rfl : j = 0 := by omega
                                                            simp)]; simp
  · rw [idxBy_hit _ _ 2 (by simp) (by simp) (fun j hj => by
      match j, hj with
      | 0, _ => simp
      | 1, _ => simp)]; simp
theorem tm21 (x : Int) : -20 ≤ x.tmod 21 ∧ x.tmod 21 ≤ 20 := by
  have h1 := Int.tmod_lt_of_pos x (show (0 : Int) < 21 by decide)
  have h2 := Int.lt_tmod_of_pos x (show (0 : Int) < 21 by decide)
  omega
theorem ver3_ok (i : Nat) : (ver3 i).toList = [] ∨ NameOk (ver3 i) := by
  match i with
  | 0 => left; kernel_rfl
  | 1 => right; exact name_ok _ (by simp [ver3])
  | _ + 2 => right; exact name_ok _ (by simp [ver3])
theorem cfg_valid (hok : PlanOk p) : Valid (p.cfg chgs47) := by
  have h4 := plan_n4 p
  have h0 := plan_n0 p
  have hl := sv_len p
  have hfl : p.flts.length ≤ 3 := by unfold Plan.flts; simp; omega
  have hfg : ∀ i (h : i < p.flts.length), ∃ x, p.flts[i] = trOf p.n x := fun i h => by
    unfold Plan.flts at h ⊢
    rw [List.getElem_map]
    exact ⟨_, rfl⟩
  obtain ⟨s0, s1⟩ := hok.seed
  refine ⟨?_, ?_, ?_, ?_, ?_, ?_, ?_, ?_, ?_, ?_, ?_, ?_, ?_, off_gap p, depCheck_ok _, ?_, ?_, ?_, ?_, ?_, ?_, ?_, ?_, ?_, ?_, ?_, ?_, ?_, ?_, ?_, ?_, ?_, ?_, cfg_cnt p⟩ <;> simp only [Plan.cfg]
  · omega
  · omega
  · omega
  · omega
  · omega
  · intro i h; rw [sv_get]; exact nm4_ok i
  · intro i h; rw [sv_get]; simp only [svOf]; rw [sv_idx p i (by omega)]; exact Int.le_refl _
  · intro i h; rw [sv_get]; simp only [svOf]; omega
  · intro i h; rw [sv_get]; have := callsOf_len p.n i (rd_T87 p.ps i).f4 3; simp only [svOf]; omega
  · intro i h nm hnm
    rw [sv_get] at hnm
    obtain ⟨j, h1, h2, rfl⟩ := calls_mem _ _ _ _ _ hnm
    rw [sv_idx p j h2]; omega
  · intro i h
    have := tm21 p.o0
    have := tm21 p.o1
    have := tm21 p.o2
    unfold Plan.offs at h ⊢
    simp only [List.length_cons, List.length_nil] at h
    match i, h with
    | 0, _ => dsimp only [List.getElem_cons_zero]; omega
    | 1, _ => dsimp only [List.getElem_cons_zero, List.getElem_cons_succ]; omega
    | 2, _ => dsimp only [List.getElem_cons_zero, List.getElem_cons_succ]; omega
  · unfold Plan.offs; simp
  · intro i h
    unfold Plan.offs at h ⊢
    simp only [List.length_cons, List.length_nil] at h
    match i, h with
    | 0, _ => dsimp only [List.getElem_cons_zero, List.getElem_cons_succ]; omega
    | 1, _ => dsimp only [List.getElem_cons_zero, List.getElem_cons_succ]; omega
  · intro i h
    obtain ⟨x, e⟩ := hfg i h
    rw [e]
    simp only [trOf]
    have hm0 := Int.emod_nonneg x.f0 (show ((p.n : Nat) : Int) ≠ 0 by omega)
    have hm1 := Int.emod_lt_of_pos x.f0 (show (0 : Int) < (p.n : Int) by omega)
    rw [sv_idx p _ (by omega)]; omega
  · intro i h
    obtain ⟨x, e⟩ := hfg i h
    rw [e]; exact ver3_ok _
  · intro i h
    obtain ⟨x, e⟩ := hfg i h
    rw [e]; simp only [trOf]; omega
  · intro i h
    obtain ⟨x, e⟩ := hfg i h
    rw [e]; simp only [trOf]; omega
  all_goals omega
end
end Go.Proofs.Ytdadnapfecmmdaa.P
namespace Go.Proofs.Ytdadnapfecmmdaa.P
set_option linter.unusedVariables false
set_option linter.unusedSimpArgs false
open Go.RowKit Go.Proofs.YtdadnapfecmmdaaW.PrintWords Go.Proofs.YtdadnapfecmmdaaW.PrintLast Go.Proofs.YtdadnapfecmmdaaW.PrintMore
def toS (s : Sp) : S56 := ⟨s.tr, s.id, s.par, s.rev, s.clk, s.kind, s.svc, s.ver, s.op, s.st, s.en, s.err, [], []⟩
def toT (x : Tr) : S51 := ⟨x.id, 1, x.l.map toS⟩
theorem spc_at (l : List Sp) (j : Nat) (hj : j < l.length) : ((spc l).drop (j * 14)).take 14 = l[j].cells := by
  apply List.ext_getElem?
  intro i
  rw [List.getElem?_take]
  split
  · rename_i h
    rw [List.getElem?_drop, spc_get l j i hj h]
  · rename_i h
    rw [List.getElem?_eq_none (by rw [Sp.cells_len]; omega)]
theorem spc_reps (w : World) (l : List Sp) : Reps (k56.K w) 14 (l.map toS) (spc l) := by
  refine ⟨by rw [spc_len, List.length_map], fun j p hj => ?_⟩
  rw [List.getElem?_map] at hj
  obtain ⟨s, hs, rfl⟩ := Option.map_eq_some_iff.mp hj
  obtain ⟨hl, rfl⟩ := List.getElem?_eq_some_iff.mp hs
  rw [spc_at l j hl]
  exact k56_mk w (toS l[j]) (A12 := none) (c12 := 0) (Nat.le_refl _) ⟨rfl, by simp [toS], fun h => absurd h (by simp [toS])⟩ (A13 := none) (c13 := 0) (Nat.le_refl _) ⟨rfl, by simp [toS], fun h => absurd h (by simp [toS])⟩
theorem own_le {w : World} {b : Nat} {e : TypeId} {sz n m : Nat} {A : Option Addr} {c : Nat} {xs : List Value} (h : w.ownsRow b e sz (.slice A n c) m xs) : n ≤ c := by
  rcases h.2 with ⟨h, _⟩ | ⟨g, cap, cur, h1, _, _, h4, _⟩
  · injection h; omega
  · injection h1; omega
theorem spc_reads {w : World} {b : Nat} {v : Value} {l : List Sp} (h : w.ownsRow b 56 14 v l.length (spc l)) : ∃ A c, v = .slice A (l.map toS).length c ∧ (l.map toS).length ≤ c ∧ Kd.C k56 w A (l.map toS).length (l.map toS) := by
  obtain ⟨A, c, rfl, hr⟩ := own_reads_row h (spc_reps w l) (by simp)
  rw [List.length_map]
  exact ⟨A, c, rfl, own_le h, hr⟩
theorem trc_at (xs : List (Tr × Value)) : ∀ j, (hj : j < xs.length) → ((trc xs).drop (j * 3)).take 3 = [.int .i64 xs[j].1.id, .int .i64 1, xs[j].2] := by
  induction xs with
  | nil => intro j hj; simp at hj
  | cons x r ih =>
    intro j hj
    match j with
    | 0 => simp [trc]
    | j + 1 =>
      simp only [trc, List.getElem_cons_succ]
      rw [show (j + 1) * 3 = j * 3 + 3 from by omega]
      have := ih j (by simpa using hj)
      simpa using this
theorem trc_len (xs : List (Tr × Value)) : (trc xs).length = xs.length * 3 := by
  induction xs with
  | nil => rfl
  | cons x r ih => simp only [trc, List.length_append, List.length_cons, List.length_nil, ih]; omega
theorem trc_reps {w : World} {b : Nat} {xs : List (Tr × Value)} (h : TsR w b xs) : Reps (k51.K w) 3 (xs.map fun x => toT x.1) (trc xs) := by
  refine ⟨by rw [trc_len, List.length_map], fun j p hj => ?_⟩
  rw [List.getElem?_map] at hj
  obtain ⟨x, hs, rfl⟩ := Option.map_eq_some_iff.mp hj
  obtain ⟨hl, rfl⟩ := List.getElem?_eq_some_iff.mp hs
  rw [trc_at xs j hl]
  obtain ⟨A, c, e, hc, hr⟩ := spc_reads (h xs[j] (List.getElem_mem hl))
  rw [e]
  exact k51_mk w (toT xs[j].1) hc hr
theorem TsOut.reads {w : World} {b : Nat} {ts : List Tr} {v : Value} (h : TsOut b w ts v) : ∃ A c, v = .slice A (ts.map toT).length c ∧ (ts.map toT).length ≤ c ∧ Kd.C k51 w A (ts.map toT).length (ts.map toT) := by
  obtain ⟨xs, rfl, ho, hr⟩ := h
  obtain ⟨A, c, rfl, hc⟩ := own_reads_row ho (trc_reps hr) (by simp)
  have e : (xs.map (·.1)).map toT = xs.map fun x => toT x.1 := by simp
  rw [e, List.length_map]
  exact ⟨A, c, rfl, own_le ho, hc⟩
end Go.Proofs.Ytdadnapfecmmdaa.P
namespace Go.Proofs.Ytdadnapfecmmdaa.P
set_option linter.unusedVariables false
set_option linter.unusedSimpArgs false
open Go.RowKit Go.Proofs.YtdadnapfecmmdaaW.PrintWords Go.Proofs.YtdadnapfecmmdaaW.PrintLast Go.Proofs.YtdadnapfecmmdaaW.PrintMore
open Go.Proofs.Ytdadnapfecmmdaa.Hm
set_option maxHeartbeats 1000000 in
theorem mindex_calls (c : Cfg) (p : CfgAt) (name : ByteArray) (w : World) (hR : CfgR w p c) : Calls Try.prog 17 #[c.val p, .string name] w fun e w' => e = .returned (.int .i64 (svIdx c.sv name)) ∧ Below w.heap.size w w' := by
  obtain ⟨A1, c1, A2, c2, A3, c3, A4, c4⟩ := p
  have HR := Aside0.mk hR.r1
  have hn : c.sv.length ≤ 9223372036854775807 := hR.r1.2.1
  have HX0 := Aside0.mk (blk_new w (.cells (c.cells ⟨A1, c1, A2, c2, A3, c3, A4, c4⟩) 31))
  have HB0 := Aside0.mk (below_alloc (Below.refl w.heap.size w) (.cells (c.cells ⟨A1, c1, A2, c2, A3, c3, A4, c4⟩) 31))
  clear hR
  go_enter Try.func17, Try.ntmps17
  go_wp2_with fail
  go_loopg [5] c.sv.length (fun gg s5 wr => ∃ i : Nat, i ≤ c.sv.length ∧ c.sv.length - i ≤ gg ∧ s5 = .int .i64 (i : Int) ∧ Aside0 (wr.heap[w.heap.size]? = some (.cells (c.cells ⟨A1, c1, A2, c2, A3, c3, A4, c4⟩) 31 (0, 0))) ∧ Aside0 (Below w.heap.size w wr) ∧ Aside0 (∀ j (_ : j < i) (hj : j < c.sv.length), (c.sv[j].f0.toList == name.toList) = false))
  case atStart => exact ⟨0, Nat.zero_le _, by omega, rfl, HX0, HB0, ⟨fun j hj => absurd hj (Nat.not_lt_zero _)⟩⟩
  case round =>
  clear HX0 HB0
  obtain ⟨i, hi, hgi, rfl, HX, HB, AN⟩ := hrel
  have q1 : wr.cell? ⟨w.heap.size, 1, none⟩ = some (.slice A1 c.sv.length c1) := (blk_cell HX.out 1).trans rfl
  by_cases hlt : i < c.sv.length
  · obtain ⟨ad, A5, c5, e, h0, _⟩ := at_T64 HR.out (i : Int) (by omega) (by omega)
    subst e
    rw [rd_T64_get c.sv i hlt] at h0
    simp only [Int.toNat_natCast] at h0
    replace h0 := (HB.out.cell (World.block_lt_of_cell? w _ h0)).trans h0
    have hltz : (i : Int) < (c.sv.length : Int) := by omega
    generalize hy : c.sv[i] = y at h0
    have B := Aside0.mk hy
    clear hy
    cases hq : (y.f0.toList == name.toList) with
    | true =>
      go_wp2_with fail
      go_ret
      refine ⟨?_, HB.out⟩
      have e : svIdx c.sv name = (i : Int) := idxBy_hit (fun x : S64 => x.f0.toList == name.toList) c.sv i hlt (by rw [B.out]; exact hq) (fun j hj => AN.out j hj (by omega))
      rw [e]
      rfl
    | false =>
      go_wp2_with fail
      go_roundg (c.sv.length - (i + 1))
      case rel => exact ⟨i + 1, by omega, Nat.le_refl _, by first | rfl | go_num, HX, HB, ⟨fun j hj hjl => by
        by_cases hjk : j < i
        · exact AN.out j hjk hjl
        · obtain rfl : j = i := by omega
          rw [B.out]; exact hq⟩⟩
      case measure => omega
  · obtain rfl : i = c.sv.length := by omega
    go_wp2_with fail
    go_ret
    refine ⟨?_, HB.out⟩
    have e : svIdx c.sv name = -1 := idxBy_none (fun x : S64 => x.f0.toList == name.toList) c.sv (fun j hj => AN.out j hj hj)
    rw [e]
    rfl
theorem duration_calls (f0 f1 f2 f3 f4 f5 : Int) (f6 f7 f8 : ByteArray) (st en : Int) (er : Bool) (v12 v13 : Value) (w : World) :
    Calls Try.prog 19 #[.agg #[.int .i64 f0, .int .i64 f1, .int .i64 f2, .int .i64 f3, .int .i64 f4, .int .i64 f5, .string f6, .string f7, .string f8, .int .i64 st, .int .i64 en, .bool er, v12, v13]] w fun e w' => e = .returned (.int .i64 (wrap64 (en - st))) ∧ Below w.heap.size w w' := by
  go_enter Try.func19, Try.ntmps19
  go_wp2
  go_ret
  exact ⟨rfl, below_alloc (Below.refl _ _) _⟩
theorem eff_l0 (l : List S100) (a : Nat) (ha : a < l.length) (m : List S100) (hm : m.length ≤ 1000) (x y : Int) (d : Nat) : ∀ i : Nat, i + d = m.length → ∃ r, ∀ k, d + 1 ≤ k → deployment_effect.l0 k l (a : Int) m (m.length : Int) (i : Int) x y = some r := by
  induction d with
  | zero =>
    intro i hi
    refine ⟨if x ≥ y then (0, 0) else (x, y), fun k hk => ?_⟩
    obtain ⟨k, rfl⟩ : ∃ q, k = q + 1 := ⟨k - 1, by omega⟩
    simp only [deployment_effect.l0]
    rw [if_neg (by omega)]
    split <;> rfl
  | succ d ih =>
    intro i hi
    obtain ⟨r, hr⟩ := ih (i + 1) (by omega)
    by_cases hs : ((rd_T100 m (i : Int)).f1 == (rd_T100 l (a : Int)).f1 && ((rd_T100 m (i : Int)).f3.toList == (rd_T100 l (a : Int)).f3.toList && ((rd_T100 m (i : Int)).f4.toList == (rd_T100 l (a : Int)).f4.toList))) = true
    · refine ⟨if x ≥ (rd_T100 m (i : Int)).f2 then (0, 0) else (x, (rd_T100 m (i : Int)).f2), fun k hk => ?_⟩
      obtain ⟨k, rfl⟩ : ∃ q, k = q + 1 := ⟨k - 1, by omega⟩
      simp only [deployment_effect.l0]
      rw [if_pos (by omega), if_pos (by omega), if_pos (by omega)]
      simp only [deployment_subjectOf.f, Option.bind_some]
      rw [if_pos (by omega), if_pos (by omega)]
      simp only [hs, if_true]
      split <;> rfl
    · refine ⟨r, fun k hk => ?_⟩
      obtain ⟨k, rfl⟩ : ∃ q, k = q + 1 := ⟨k - 1, by omega⟩
      simp only [deployment_effect.l0]
      rw [if_pos (by omega), if_pos (by omega), if_pos (by omega)]
      simp only [deployment_subjectOf.f, Option.bind_some]
      rw [if_pos (by omega), if_pos (by omega)]
      rw [if_neg hs, w1 _ (by omega) (by omega)]
      exact hr k (by omega)
theorem eff_ok (l : List S100) (hl : l.length ≤ 1000) (a : Nat) (ha : a < l.length) : ∃ r, ∀ k, l.length + 1 ≤ k → deployment_effect.f k l (a : Int) = some r := by
  obtain ⟨r, hr⟩ := eff_l0 l a ha (l.drop (a + 1)) (by simp; omega) (rd_T100 l (a : Int)).f2 1048577 (l.drop (a + 1)).length 0 (by omega)
  refine ⟨r, fun k hk => ?_⟩
  unfold deployment_effect.f
  rw [w1 _ (by omega) (by omega), if_pos (by omega), if_pos (by omega), if_pos (by omega), if_pos (by omega)]
  simp only [Option.bind_some]
  rw [show ((a : Int) + 1).toNat = a + 1 from by omega]
  exact hr k (by simp; omega)
abbrev Act := Int × Int × Int × ByteArray × ByteArray × ByteArray × Bool
def noAct : Act := (0, 0, 0, (⟨#[]⟩ : ByteArray), (⟨#[]⟩ : ByteArray), (⟨#[]⟩ : ByteArray), false)
def isAct (y : S100) : Act := (y.f0, y.f1, y.f2, y.f3, y.f4, y.f5, true)
theorem act_l0 (l : List S100) (hl : l.length ≤ 1000) (name : ByteArray) (slot : Int) (d : Nat) : ∀ i : Nat, i + d = l.length →
    ∃ r : Act, (∀ k, d + l.length + 2 ≤ k → deployment_Active.l0 k l name slot l (l.length : Int) (i : Int) = some r) ∧ (r = noAct ∨ ∃ y ∈ l, r = isAct y ∧ y.f1 = 1) := by
  induction d with
  | zero =>
    intro i hi
    refine ⟨noAct, fun k hk => ?_, .inl rfl⟩
    obtain ⟨k, rfl⟩ : ∃ q, k = q + 1 := ⟨k - 1, by omega⟩
    simp only [deployment_Active.l0]
    rw [if_neg (by omega)]
    rfl
  | succ d ih =>
    intro i hi
    obtain ⟨r, hr, hc⟩ := ih (i + 1) (by omega)
    have e : rd_T100 l (i : Int) = l[i] := by unfold rd_T100; simp [List.getD_eq_getElem?_getD, show i < l.length by omega]
    obtain ⟨q, hq⟩ := eff_ok l hl i (by omega)
    by_cases h1 : l[i].f1 = 1
    · by_cases h2 : l[i].f3.toList = name.toList
      · by_cases h3 : q.1 ≤ slot ∧ slot < q.2
        · refine ⟨isAct l[i], fun k hk => ?_, .inr ⟨l[i], List.getElem_mem _, rfl, h1⟩⟩
          obtain ⟨k, rfl⟩ : ∃ q, k = q + 1 := ⟨k - 1, by omega⟩
          simp only [deployment_Active.l0]
          rw [if_pos (by omega), if_pos (by omega), if_pos (by omega), e, if_pos h1, if_pos h2, hq k (by omega)]
          simp only [Option.bind_some, deployment_has.f]
          rw [if_pos h3.1]
          simp only [Option.bind_some]
          rw [if_pos (by simpa using h3.2)]
          rfl
        · refine ⟨r, fun k hk => ?_, hc⟩
          obtain ⟨k, rfl⟩ : ∃ q, k = q + 1 := ⟨k - 1, by omega⟩
          simp only [deployment_Active.l0]
          rw [if_pos (by omega), if_pos (by omega), if_pos (by omega), e, if_pos h1, if_pos h2, hq k (by omega)]
          simp only [Option.bind_some, deployment_has.f]
          by_cases h4 : q.1 ≤ slot
          · rw [if_pos h4]
            simp only [Option.bind_some]
            rw [if_neg (by simp; omega), w1 _ (by omega) (by omega)]
            exact hr k (by omega)
          · rw [if_neg h4]
            simp only [Option.bind_some]
            rw [if_neg (by simp), w1 _ (by omega) (by omega)]
            exact hr k (by omega)
      · refine ⟨r, fun k hk => ?_, hc⟩
        obtain ⟨k, rfl⟩ : ∃ q, k = q + 1 := ⟨k - 1, by omega⟩
        simp only [deployment_Active.l0]
        rw [if_pos (by omega), if_pos (by omega), if_pos (by omega), e, if_pos h1, if_neg h2, w1 _ (by omega) (by omega)]
        exact hr k (by omega)
    · refine ⟨r, fun k hk => ?_, hc⟩
      obtain ⟨k, rfl⟩ : ∃ q, k = q + 1 := ⟨k - 1, by omega⟩
      simp only [deployment_Active.l0]
      rw [if_pos (by omega), if_pos (by omega), if_pos (by omega), e, if_neg h1, w1 _ (by omega) (by omega)]
      exact hr k (by omega)
def actV (l : List S100) (name : ByteArray) (slot : Int) : Act := (deployment_Active.f 100 l name slot).getD noAct
theorem act_ok (l : List S100) (hl : l.length ≤ 40) (name : ByteArray) (slot : Int) : (∀ k, 100 ≤ k → deployment_Active.f k l name slot = some (actV l name slot)) ∧ (actV l name slot = noAct ∨ ∃ y ∈ l, actV l name slot = isAct y ∧ y.f1 = 1) := by
  obtain ⟨r, hr, hc⟩ := act_l0 l (by omega) name slot l.length 0 (by omega)
  have h : ∀ k, 100 ≤ k → deployment_Active.f k l name slot = some r := fun k hk => by
    unfold deployment_Active.f
    exact hr k (by omega)
  have e : actV l name slot = r := by unfold actV; rw [h 100 (by omega)]; rfl
  rw [e]
  exact ⟨h, hc⟩
structure Sys (c : Cfg) : Prop where
  n0 : 1 ≤ c.sv.length
  n4 : c.sv.length ≤ 4
  name : ∀ i (h : i < c.sv.length), c.sv[i].f0 = nm4 i
  calls : ∀ i (h : i < c.sv.length), ∀ nm ∈ c.sv[i].f5, ∃ j, i < j ∧ j < c.sv.length ∧ nm = nm4 j
  clen : ∀ i (h : i < c.sv.length), c.sv[i].f5.length ≤ 3
  work : ∀ i (h : i < c.sv.length), 0 ≤ c.sv[i].f2 ∧ c.sv[i].f2 ≤ 19 ∧ 0 ≤ c.sv[i].f3 ∧ c.sv[i].f3 ≤ 9
  fault : ∀ x ∈ c.fl, 0 ≤ x.f3 ∧ x.f3 ≤ 29
  faults : c.fl.length ≤ 3
  delay0 : 0 ≤ c.delay
  delay1 : c.delay ≤ 5
  chg : c.ch.length ≤ 12
theorem plan_sys (p : Plan) (hok : PlanOk p) : Sys (p.cfg chgs47) := by
  have h4 := plan_n4 p
  have h0 := plan_n0 p
  have hl := sv_len p
  refine ⟨?_, ?_, ?_, ?_, ?_, ?_, ?_, ?_, ?_, ?_, chgs_len _⟩ <;> simp only [Plan.cfg]
  · omega
  · omega
  · intro i h; rw [sv_get]; rfl
  · intro i h nm hnm
    rw [sv_get] at hnm
    obtain ⟨j, h1, h2, rfl⟩ := calls_mem _ _ _ _ _ hnm
    exact ⟨j, h1, by omega, rfl⟩
  · intro i h; rw [sv_get]; exact callsOf_len _ _ _ _
  · intro i h; rw [sv_get]; simp only [svOf]; omega
  · intro x hx
    unfold Plan.flts at hx
    obtain ⟨y, _, rfl⟩ := List.mem_map.mp hx
    simp only [trOf]; omega
  · unfold Plan.flts; simp; omega
  · omega
  · omega
theorem smC_take (l : List S64) (hn : ∀ i (h : i < l.length), l[i].f0 = nm4 i) (h4 : l.length ≤ 4) (k : Nat) (hk : k ≤ l.length) : ∀ j (hj : j < k), mget (smC (l.take k)) (nm4 j) = some ⟨l[j]'(by omega), none, 0⟩ := by
  induction k with
  | zero => intro j hj; omega
  | succ k ih =>
    intro j hj
    rw [List.take_succ_eq_append_getElem (by omega), smC_snoc]
    rw [hn k (by omega)]
    by_cases h : j = k
    · subst h
      rw [mget_put_same]
    · rw [mget_put_other _ _ _ _ (fun e => h (nm4_inj _ _ (by omega) (by omega) e))]
      exact ih (by omega) j (by omega)
theorem Sys.look {c : Cfg} (hS : Sys c) (j : Nat) (hj : j < c.sv.length) : mget (smC c.sv) (nm4 j) = some ⟨c.sv[j], none, 0⟩ := by
  have h := smC_take c.sv hS.name hS.n4 c.sv.length (Nat.le_refl _) j hj
  rwa [List.take_length] at h
theorem Sys.idx {c : Cfg} (hS : Sys c) (j : Nat) (hj : j < c.sv.length) : svIdx c.sv (nm4 j) = (j : Int) := by
  have h4 := hS.n4
  unfold svIdx
  refine idxBy_hit _ _ j hj ?_ (fun i hi => ?_)
  · rw [hS.name]; simp
  · rw [hS.name]
    show ((nm4 i).toList == (nm4 j).toList) = false
    rw [nm4_eq i j (by omega) (by omega)]
    simp; omega
abbrev Res := Int × Bool × List Sp
def callsI (seed delay t i : Int) (x : S64) (ver : ByteArray) (rec : ByteArray → Int → Int → Nat → Res) : List ByteArray → Int → Bool → Nat → Res
  | [], y, fl, _ => (y, fl, [])
  | nm :: r, y, fl, len =>
    let q := rec nm ((len : Int) + 1) (y + delay + rollV seed t ((len : Int) + 1) 2 % (delay + 1)) (len + 1)
    let z := q.1 + delay + rollV seed t ((len : Int) + 1) 3 % (delay + 1)
    let s := callsI seed delay t i x ver rec r z (fl || q.2.1) (len + 1 + q.2.2.length)
    (s.1, s.2.1, ⟨t, (len : Int) + 1, i, 0, x.f1, 2, x.f0, ver, strCall, y, z, q.2.1⟩ :: (q.2.2 ++ s.2.2))
def workV (c : Cfg) (slot t : Int) (sv : S64) (len : Nat) : Int × Int := faultsV sv.f0 (actV c.ch sv.f0 slot).2.2.2.2.2.1 slot c.fl (sv.f2 + rollV c.seed t ((len : Int) + 1) 1 % (sv.f3 + 1)) sv.f4
def serveI (c : Cfg) (slot t : Int) : Nat → ByteArray → Int → Int → Nat → Res
  | 0, _, _, _, _ => (0, false, [])
  | d + 1, nm, parent, x, len =>
    let sv := rd_T64 c.sv (svIdx c.sv nm)
    let ver := (actV c.ch sv.f0 slot).2.2.2.2.2.1
    let wf := workV c slot t sv len
    let q := callsI c.seed c.delay t ((len : Int) + 1) sv ver (serveI c slot t d) sv.f5 (x + wf.1 / 2) (decide (rollV c.seed t ((len : Int) + 1) 4 % 1000000 < wf.2)) (len + 1)
    (q.1 + wf.1 - wf.1 / 2, q.2.1, ⟨t, (len : Int) + 1, parent, 0, sv.f1, 3, sv.f0, ver, strServe, x, q.1 + wf.1 - wf.1 / 2, q.2.1⟩ :: q.2.2)
def tim : Nat → Int
  | 0 => 0
  | d + 1 => 200 + 3 * (tim d + 30)
def lng : Nat → Nat
  | 0 => 0
  | d + 1 => 4 + 3 * lng d
theorem setEnd_snoc (l m : List Sp) (s : Sp) (en : Int) (err : Bool) : setEnd (l ++ s :: m) l.length en err = l ++ { s with en := en, err := err } :: m := by
  unfold setEnd
  rw [List.modify_eq_take_cons_drop (by simp)]
  simp
def RecOk (rec : ByteArray → Int → Int → List Sp → Option (Int × Bool × List Sp)) (recI : ByteArray → Int → Int → Nat → Res) (B : Nat) (T : Int) (nm : ByteArray) : Prop :=
  ∀ parent x (l : List Sp), l.length + B ≤ 1000 → 0 ≤ x → x + T ≤ BIG →
    (rec nm parent x l = some ((recI nm parent x l.length).1, (recI nm parent x l.length).2.1, l ++ (recI nm parent x l.length).2.2)) ∧ x ≤ (recI nm parent x l.length).1 ∧ (recI nm parent x l.length).1 ≤ x + T ∧ (recI nm parent x l.length).2.2.length ≤ B
theorem calls_eq (seed delay t i : Int) (x : S64) (ver : ByteArray) (rec : ByteArray → Int → Int → List Sp → Option (Int × Bool × List Sp)) (recI : ByteArray → Int → Int → Nat → Res) (B : Nat) (T : Int) (hd0 : 0 ≤ delay) (hd1 : delay ≤ 5) (hT : 0 ≤ T) :
    ∀ (cl : List ByteArray), (∀ nm ∈ cl, RecOk rec recI B T nm) → ∀ (y : Int) (fl : Bool) (l : List Sp), l.length + cl.length * (1 + B) ≤ 1000 → 0 ≤ y → y + (cl.length : Int) * (T + 30) ≤ BIG →
      (callsV seed delay t i x ver rec cl y fl l = some ((callsI seed delay t i x ver recI cl y fl l.length).1, (callsI seed delay t i x ver recI cl y fl l.length).2.1, l ++ (callsI seed delay t i x ver recI cl y fl l.length).2.2)) ∧ y ≤ (callsI seed delay t i x ver recI cl y fl l.length).1 ∧ (callsI seed delay t i x ver recI cl y fl l.length).1 ≤ y + (cl.length : Int) * (T + 30) ∧ (callsI seed delay t i x ver recI cl y fl l.length).2.2.length ≤ cl.length * (1 + B) := by
  intro cl
  induction cl with
  | nil => intro _ y fl l _ h0 _; simp [callsV, callsI]
  | cons nm r ih =>
    intro hrec y fl l hl h0 hy
    simp only [List.length_cons] at hl hy ⊢
    have m1 : (r.length + 1) * (1 + B) = r.length * (1 + B) + (1 + B) := Nat.succ_mul _ _
    have m2 : ((r.length + 1 : Nat) : Int) * (T + 30) = (r.length : Int) * (T + 30) + (T + 30) := by
      rw [Int.natCast_add, Int.add_mul]; simp
    have m3 : 0 ≤ (r.length : Int) * (T + 30) := Int.mul_nonneg (by omega) (by omega)
    rw [m1] at hl ⊢
    rw [m2] at hy ⊢
    have hih := ih (fun nm hnm => hrec nm (by simp [hnm]))
    clear ih m1 m2
    generalize r.length * (1 + B) = P at hl hih ⊢
    generalize (r.length : Int) * (T + 30) = Q at hy m3 hih ⊢
    have r2 := Int.emod_nonneg (rollV seed t ((l.length : Int) + 1) 2) (show delay + 1 ≠ 0 by omega)
    have r2' := Int.emod_lt_of_pos (rollV seed t ((l.length : Int) + 1) 2) (show 0 < delay + 1 by omega)
    have r3 := Int.emod_nonneg (rollV seed t ((l.length : Int) + 1) 3) (show delay + 1 ≠ 0 by omega)
    have r3' := Int.emod_lt_of_pos (rollV seed t ((l.length : Int) + 1) 3) (show 0 < delay + 1 by omega)
    obtain ⟨h1, h2, h3, h4⟩ := hrec nm (by simp) ((l.length : Int) + 1) (y + delay + rollV seed t ((l.length : Int) + 1) 2 % (delay + 1)) (l ++ [⟨t, (l.length : Int) + 1, i, 0, x.f1, 2, x.f0, ver, strCall, y, 0, false⟩]) (by simp only [List.length_append, List.length_singleton]; omega) (by omega) (by omega)
    rw [show (l ++ [(⟨t, (l.length : Int) + 1, i, 0, x.f1, 2, x.f0, ver, strCall, y, 0, false⟩ : Sp)]).length = l.length + 1 from by simp] at h1 h2 h3 h4
    simp only [callsV, callsI]
    generalize recI nm ((l.length : Int) + 1) (y + delay + rollV seed t ((l.length : Int) + 1) 2 % (delay + 1)) (l.length + 1) = q at h1 h2 h3 h4 ⊢
    obtain ⟨q1, q2, q3⟩ := q
    dsimp only at h1 h2 h3 h4 ⊢
    rw [if_pos ⟨by omega, h0, by omega⟩, h1]
    simp only [Option.bind_some]
    rw [if_pos ⟨by omega, by omega, by simp⟩]
    rw [List.append_assoc, List.singleton_append, setEnd_snoc]
    have hlen : (l ++ (⟨t, (l.length : Int) + 1, i, 0, x.f1, 2, x.f0, ver, strCall, y, q1 + delay + rollV seed t ((l.length : Int) + 1) 3 % (delay + 1), q2⟩ : Sp) :: q3).length = l.length + 1 + q3.length := by simp; omega
    obtain ⟨g1, g2, g3, g4⟩ := hih (q1 + delay + rollV seed t ((l.length : Int) + 1) 3 % (delay + 1)) (fl || q2) (l ++ (⟨t, (l.length : Int) + 1, i, 0, x.f1, 2, x.f0, ver, strCall, y, q1 + delay + rollV seed t ((l.length : Int) + 1) 3 % (delay + 1), q2⟩ : Sp) :: q3) (by rw [hlen]; omega) (by omega) (by omega)
    rw [hlen] at g1 g2 g3 g4
    refine ⟨?_, by omega, by omega, by simp only [List.length_cons, List.length_append]; omega⟩
    rw [g1]
    simp
theorem faults_bound (name ver : ByteArray) (slot : Int) (l : List S61) (hl : ∀ x ∈ l, 0 ≤ x.f3 ∧ x.f3 ≤ 29) (hn : l.length ≤ 3) : ∀ w f, 0 ≤ w → w + 29 * (l.length : Int) ≤ 1000 → w ≤ (faultsV name ver slot l w f).1 ∧ (faultsV name ver slot l w f).1 ≤ w + 29 * l.length := by
  induction l with
  | nil => intro w f h0 h1; simp [faultsV]
  | cons x r ih =>
    intro w f h0 h1
    obtain ⟨a, b⟩ := hl x (by simp)
    simp only [List.length_cons] at hn h1 ⊢
    have hw : wrap64 (w + x.f3) = w + x.f3 := by unfold wrap64; omega
    have ih' := ih (fun y hy => hl y (by simp [hy])) (by omega)
    simp only [faultsV]
    split
    · rw [hw]
      have := ih' (w + x.f3) (wrap64 (f + x.f4)) (by omega) (by omega)
      omega
    · have := ih' w f h0 (by omega)
      omega
theorem Sys.workV {c : Cfg} (hS : Sys c) (slot t : Int) (j : Nat) (hj : j < c.sv.length) (len : Nat) : 0 ≤ (workV c slot t c.sv[j] len).1 ∧ (workV c slot t c.sv[j] len).1 ≤ 200 := by
  obtain ⟨a, b, e, d⟩ := hS.work j hj
  have r := Int.emod_nonneg (rollV c.seed t ((len : Int) + 1) 1) (show c.sv[j].f3 + 1 ≠ 0 by omega)
  have r' := Int.emod_lt_of_pos (rollV c.seed t ((len : Int) + 1) 1) (show 0 < c.sv[j].f3 + 1 by omega)
  have := faults_bound c.sv[j].f0 (actV c.ch c.sv[j].f0 slot).2.2.2.2.2.1 slot c.fl hS.fault hS.faults (c.sv[j].f2 + rollV c.seed t ((len : Int) + 1) 1 % (c.sv[j].f3 + 1)) c.sv[j].f4 (by omega) (by have := hS.faults; omega)
  have hf := hS.faults
  unfold P.workV
  omega
theorem tim_pos (d : Nat) : 0 ≤ tim d := by
  induction d with
  | zero => simp [tim]
  | succ d ih => simp only [tim]; omega
theorem serve_eq (c : Cfg) (hS : Sys c) (slot t : Int) (d : Nat) : ∀ j, j < c.sv.length → c.sv.length ≤ j + d → ∀ m, 100 + d ≤ m → RecOk (serveV c slot t (smC c.sv) m) (serveI c slot t d) (lng d) (tim d) (nm4 j) := by
  induction d with
  | zero => intro j hj hd; omega
  | succ d ih =>
    intro j hj hd m hm parent x l hl h0 hx
    obtain ⟨m, rfl⟩ : ∃ q, m = q + 1 := ⟨m - 1, by omega⟩
    have hw := hS.workV slot t j hj l.length
    have hwk := hS.work j hj
    have hcl := hS.clen j hj
    have hT := tim_pos d
    have hac := (act_ok c.ch (by have := hS.chg; omega) c.sv[j].f0 slot).1 m (by omega)
    have hr : rd_T64 c.sv (svIdx c.sv (nm4 j)) = c.sv[j] := by rw [hS.idx j hj]; exact rd64 _ _ hj
    have hnm := hS.name j hj
    have hb1 : c.sv[j].f5.length * (1 + lng d) ≤ 3 * (1 + lng d) := Nat.mul_le_mul_right _ hcl
    have hb2 : (c.sv[j].f5.length : Int) * (tim d + 30) ≤ 3 * (tim d + 30) := Int.mul_le_mul_of_nonneg_right (by omega) (by omega)
    simp only [tim, lng] at hl hx ⊢
    have hc := calls_eq c.seed c.delay t ((l.length : Int) + 1) c.sv[j] (actV c.ch c.sv[j].f0 slot).2.2.2.2.2.1 (serveV c slot t (smC c.sv) m) (serveI c slot t d) (lng d) (tim d) hS.delay0 hS.delay1 hT c.sv[j].f5
      (fun nm hnm => by
        obtain ⟨i, h1, h2, rfl⟩ := hS.calls j hj nm hnm
        exact ih i h2 (by omega) m (by omega))
      (x + (workV c slot t c.sv[j] l.length).1 / 2) (decide (rollV c.seed t ((l.length : Int) + 1) 4 % 1000000 < (workV c slot t c.sv[j] l.length).2))
      (l ++ [⟨t, (l.length : Int) + 1, parent, 0, c.sv[j].f1, 3, c.sv[j].f0, (actV c.ch c.sv[j].f0 slot).2.2.2.2.2.1, strServe, x, 0, false⟩]) (by simp only [List.length_append, List.length_singleton]; omega) (by omega) (by omega)
    rw [show (l ++ [(⟨t, (l.length : Int) + 1, parent, 0, c.sv[j].f1, 3, c.sv[j].f0, (actV c.ch c.sv[j].f0 slot).2.2.2.2.2.1, strServe, x, 0, false⟩ : Sp)]).length = l.length + 1 from by simp] at hc
    simp only [serveV, serveI, hS.look j hj, Option.bind_some, hr]
    rw [← hnm, hac]
    simp only [Option.bind_some]
    have hW : faultsV c.sv[j].f0 (actV c.ch c.sv[j].f0 slot).2.2.2.2.2.1 slot c.fl (c.sv[j].f2 + rollV c.seed t ((l.length : Int) + 1) 1 % (c.sv[j].f3 + 1)) c.sv[j].f4 = workV c slot t c.sv[j] l.length := rfl
    rw [hW]
    generalize workV c slot t c.sv[j] l.length = wf at hw hc ⊢
    generalize callsI c.seed c.delay t ((l.length : Int) + 1) c.sv[j] (actV c.ch c.sv[j].f0 slot).2.2.2.2.2.1 (serveI c slot t d) c.sv[j].f5 (x + wf.1 / 2) (decide (rollV c.seed t ((l.length : Int) + 1) 4 % 1000000 < wf.2)) (l.length + 1) = q at hc ⊢
    obtain ⟨q1, q2, q3⟩ := q
    obtain ⟨wf1, wf2⟩ := wf
    dsimp only at hc hw ⊢
    obtain ⟨g1, g2, g3, g4⟩ := hc
    rw [if_pos ⟨by omega, h0, by omega, by omega, by omega, by omega, by omega⟩, if_pos ⟨by omega, by omega⟩, g1]
    simp only [Option.bind_some]
    rw [if_pos ⟨by omega, by omega, by simp⟩]
    rw [List.append_assoc, List.singleton_append, setEnd_snoc]
    refine ⟨rfl, by omega, by omega, by simp only [List.length_cons]; omega⟩
def traceId (slot k : Int) : Int := slot * 1048576 + 1 + k
def traceI (c : Cfg) (slot k : Int) : List Sp := (serveI c slot (traceId slot k) c.sv.length (nm4 0) 0 (1000 * slot + 7 * k) 0).2.2
theorem traceI_cons (c : Cfg) (hS : Sys c) (slot k : Int) : ∃ s r, traceI c slot k = s :: r ∧ s.tr = traceId slot k := by
  unfold traceI
  obtain ⟨d, hd⟩ : ∃ d, c.sv.length = d + 1 := ⟨c.sv.length - 1, by have := hS.n0; omega⟩
  rw [hd]
  exact ⟨_, _, rfl, rfl⟩
theorem lng_le (d : Nat) (h : d ≤ 4) : lng d ≤ 160 ∧ tim d ≤ 11600 := by
  match d, h with
  | 0, _ => decide
  | 1, _ => decide
  | 2, _ => decide
  | 3, _ => decide
  | 4, _ => decide
theorem trace_eq (c : Cfg) (hS : Sys c) (slot k : Int) (m : Nat) (hm : 110 ≤ m) (hs0 : 0 ≤ slot) (hs1 : slot ≤ 1000) (hk0 : 0 ≤ k) (hk1 : k ≤ 1000) : traceV m c slot k = some (traceI c slot k) := by
  have h0 := hS.n0
  have h4 := hS.n4
  have hd0 := hS.delay0
  have hd1 := hS.delay1
  have hb := lng_le c.sv.length h4
  have hB : BIG = 1152921504606846976 := rfl
  have he := (serve_eq c hS slot (traceId slot k) c.sv.length 0 (by omega) (by omega) m (by omega) 0 (1000 * slot + 7 * k) [] (by simp only [List.length_nil]; omega) (by omega) (by rw [hB]; omega)).1
  unfold traceV
  cases hsv : c.sv with
  | nil => rw [hsv] at h0; simp at h0
  | cons x r =>
    have hx : x.f0 = nm4 0 := by
      have := hS.name 0 (by omega)
      simpa [hsv] using this
    dsimp only
    rw [if_pos ⟨hs0, by omega, hk0, by omega, hd0, by omega⟩, hx, ← hsv]
    rw [show slot * 1048576 + 1 + k = traceId slot k from rfl, he]
    rfl
def slotTr (c : Cfg) (f : Sp → Sp) (s : Int) : List Tr := (List.range c.per.toNat).map fun (k : Nat) => ⟨traceId s k, (traceI c s k).map f⟩
def tracesI (c : Cfg) (f : Sp → Sp) : List Tr := (List.range (c.sto - c.sfrom).toNat).flatMap fun (i : Nat) => slotTr c f (c.sfrom + i)
theorem trK_eq (c : Cfg) (hS : Sys c) (f : Sp → Sp) (s : Int) (m : Nat) (hm : 110 ≤ m) (hs0 : 0 ≤ s) (hs1 : s ≤ 1000) (j : Nat) : ∀ (k : Nat) (acc : List Tr), k + j ≤ 1000 → acc.length + j ≤ 100000 →
    trK (traceV m c s) f j (k : Int) acc = some (acc ++ (List.range' k j).map fun (k : Nat) => ⟨traceId s k, (traceI c s k).map f⟩) := by
  induction j with
  | zero => intro k acc _ _; simp [trK]
  | succ j ih =>
    intro k acc hk ha
    simp only [trK]
    rw [if_pos (by omega), trace_eq c hS s k m hm hs0 hs1 (by omega) (by omega)]
    simp only [Option.bind_some]
    obtain ⟨a, r, e, ht⟩ := traceI_cons c hS s k
    have h := ih (k + 1) (acc ++ [⟨traceId s k, (traceI c s k).map f⟩]) (by omega) (by simp; omega)
    rw [e] at h ⊢
    dsimp only
    rw [ht, show (k : Int) + 1 = ((k + 1 : Nat) : Int) from rfl, h, List.range'_succ]
    simp [e]
theorem trS_eq (c : Cfg) (hS : Sys c) (f : Sp → Sp) (m : Nat) (hm : 110 ≤ m) (hp : c.per.toNat ≤ 1000) (j : Nat) : ∀ (i : Nat) (s : Int) (acc : List Tr), 0 ≤ s → s + j ≤ 1000 → acc.length + j * c.per.toNat ≤ 100000 →
    trS m c f j s acc = some (acc ++ (List.range j).flatMap fun (i : Nat) => slotTr c f (s + i)) := by
  induction j with
  | zero => intro i s acc _ _ _; simp [trS]
  | succ j ih =>
    intro i s acc h0 h1 ha
    have hm1 : (j + 1) * c.per.toNat = j * c.per.toNat + c.per.toNat := Nat.succ_mul _ _
    simp only [trS]
    have hk := trK_eq c hS f s m hm h0 (by omega) c.per.toNat 0 acc (by omega) (by omega)
    rw [show ((0 : Nat) : Int) = 0 from rfl] at hk
    rw [hk]
    simp only [Option.bind_some]
    rw [ih i (s + 1) _ (by omega) (by omega) (by simp; omega), ← List.range_eq_range']
    rw [List.range_succ_eq_map, List.flatMap_cons, List.flatMap_map]
    rw [List.append_assoc]
    have e : (fun i : Nat => slotTr c f (s + 1 + i)) = fun a : Nat => slotTr c f (s + (Nat.succ a : Nat)) := by
      funext a
      rw [show s + 1 + (a : Int) = s + ((Nat.succ a : Nat) : Int) from by omega]
    rw [e]
    simp [slotTr]
theorem traces_eq (c : Cfg) (hS : Sys c) (f : Sp → Sp) (h0 : 0 ≤ c.sfrom) (h1 : c.sto ≤ 100) (hp : c.per ≤ 10) (m : Nat) (hm : 110 ≤ m) : tracesV m c f = some (tracesI c f) := by
  unfold tracesV
  rw [if_pos ⟨h0, by omega, by omega⟩]
  have hb : (c.sto - c.sfrom).toNat * c.per.toNat ≤ 100 * 10 := Nat.mul_le_mul (by omega) (by omega)
  by_cases hs : c.sfrom ≤ c.sto
  · have := trS_eq c hS f m hm (by omega) (c.sto - c.sfrom).toNat 0 c.sfrom [] h0 (by omega) (by simp only [List.length_nil]; omega)
    rw [this]; rfl
  · have : (c.sto - c.sfrom).toNat = 0 := by omega
    unfold tracesI
    rw [this]; rfl
theorem plan_traces (p : Plan) (hok : PlanOk p) (f : Sp → Sp) (m : Nat) (hm : 110 ≤ m) : tracesV m (p.cfg chgs47) f = some (tracesI (p.cfg chgs47) f) := by
  refine traces_eq _ (plan_sys p hok) f ?_ ?_ ?_ m hm <;> simp only [Plan.cfg] <;> omega
def Pw (R : Sp → Sp → Prop) : List Sp → List Sp → Prop
  | [], [] => True
  | a :: l, b :: m => R a b ∧ Pw R l m
  | _, _ => False
theorem Pw.len {R : Sp → Sp → Prop} : ∀ {l m : List Sp}, Pw R l m → l.length = m.length
  | [], [], _ => rfl
  | a :: l, b :: m, h => by simp [Pw.len h.2]
  | [], _ :: _, h => h.elim
  | _ :: _, [], h => h.elim
theorem Pw.app {R : Sp → Sp → Prop} : ∀ {l m l' m' : List Sp}, Pw R l m → Pw R l' m' → Pw R (l ++ l') (m ++ m')
  | [], [], _, _, _, k => k
  | a :: l, b :: m, _, _, h, k => ⟨h.1, Pw.app h.2 k⟩
  | [], _ :: _, _, _, h, _ => h.elim
  | _ :: _, [], _, _, h, _ => h.elim
theorem Pw.get {R : Sp → Sp → Prop} : ∀ {l m : List Sp}, Pw R l m → ∀ (i : Nat) (h : i < l.length) (k : i < m.length), R l[i] m[i]
  | [], [], _, i, h, _ => by simp at h
  | a :: l, b :: m, h, 0, _, _ => h.1
  | a :: l, b :: m, h, i + 1, g, k => Pw.get h.2 i (by simpa using g) (by simpa using k)
  | [], _ :: _, h, _, _, _ => h.elim
  | _ :: _, [], h, _, _, _ => h.elim
section
variable (f : S61) (slot : Int) (leaf : Prop)
def Conc (svc ver : ByteArray) : Prop := f.f0.toList = svc.toList ∧ f.f2.f0 ≤ slot ∧ slot < f.f2.f1 ∧ (f.f1.toList = [] ∨ f.f1.toList = ver.toList)
def ConcS (s : Sp) : Prop := s.kind = 3 ∧ Conc f slot s.svc s.ver
structure SameS (a b : Sp) : Prop where
  tr : b.tr = a.tr
  kind : b.kind = a.kind
  svc : b.svc = a.svc
  ver : b.ver = a.ver
  dur : ConcS f slot a → leaf → b.en - b.st = a.en - a.st + f.f3
end
def Cfg.more (c : Cfg) (f : S61) : Cfg := { c with fl := c.fl ++ [f] }
open Classical in
theorem faults_snoc (f : S61) (name ver : ByteArray) (slot : Int) (l : List S61) : ∀ w g, faultsV name ver slot (l ++ [f]) w g = if Conc f slot name ver then (wrap64 ((faultsV name ver slot l w g).1 + f.f3), wrap64 ((faultsV name ver slot l w g).2 + f.f4)) else faultsV name ver slot l w g := by
  induction l with
  | nil =>
    intro w g
    simp only [List.nil_append, faultsV]
    unfold Conc
    congr
  | cons x r ih =>
    intro w g
    simp only [List.cons_append, faultsV]
    split
    · exact ih _ _
    · exact ih _ _
def RecRel (f : S61) (slot : Int) (leaf : Prop) (rec recd : ByteArray → Int → Int → Nat → Res) (nm : ByteArray) : Prop :=
  ∀ parent x x' len, Pw (SameS f slot leaf) (rec nm parent x len).2.2 (recd nm parent x' len).2.2 ∧ (x = x' → (∀ a ∈ (rec nm parent x len).2.2, ¬ ConcS f slot a) → rec nm parent x len = recd nm parent x' len)
theorem calls_rel (f : S61) (slot : Int) (leaf : Prop) (seed delay t i : Int) (x : S64) (ver : ByteArray) (rec recd : ByteArray → Int → Int → Nat → Res) (cl : List ByteArray) (hrec : ∀ nm ∈ cl, RecRel f slot leaf rec recd nm) :
    ∀ y y' fl fl' len, Pw (SameS f slot leaf) (callsI seed delay t i x ver rec cl y fl len).2.2 (callsI seed delay t i x ver recd cl y' fl' len).2.2 ∧
      (y = y' → fl = fl' → (∀ a ∈ (callsI seed delay t i x ver rec cl y fl len).2.2, ¬ ConcS f slot a) → callsI seed delay t i x ver rec cl y fl len = callsI seed delay t i x ver recd cl y' fl' len) := by
  induction cl with
  | nil => intro y y' fl fl' len; exact ⟨trivial, fun h1 h2 _ => by rw [h1, h2]; rfl⟩
  | cons nm r ih =>
    intro y y' fl fl' len
    have ih := ih (fun nm h => hrec nm (by simp [h]))
    obtain ⟨p1, p2⟩ := hrec nm (by simp) ((len : Int) + 1) (y + delay + rollV seed t ((len : Int) + 1) 2 % (delay + 1)) (y' + delay + rollV seed t ((len : Int) + 1) 2 % (delay + 1)) (len + 1)
    simp only [callsI]
    generalize hq : rec nm ((len : Int) + 1) (y + delay + rollV seed t ((len : Int) + 1) 2 % (delay + 1)) (len + 1) = q at p1 p2 ⊢
    generalize hq' : recd nm ((len : Int) + 1) (y' + delay + rollV seed t ((len : Int) + 1) 2 % (delay + 1)) (len + 1) = q' at p1 p2 ⊢
    rw [← p1.len]
    obtain ⟨s1, s2⟩ := ih (q.1 + delay + rollV seed t ((len : Int) + 1) 3 % (delay + 1)) (q'.1 + delay + rollV seed t ((len : Int) + 1) 3 % (delay + 1)) (fl || q.2.1) (fl' || q'.2.1) (len + 1 + q.2.2.length)
    refine ⟨⟨⟨rfl, rfl, rfl, rfl, fun h => by have h1 := h.1; dsimp only at h1; omega⟩, p1.app s1⟩, fun h1 h2 hn => ?_⟩
    have e1 := p2 (by rw [h1]) (fun a ha => hn a (by simp [ha]))
    subst e1
    have e2 := s2 rfl (by rw [h2]) (fun a ha => hn a (by simp [ha]))
    rw [← e2, h1]
theorem serve_rel (c : Cfg) (hS : Sys c) (f : S61) (hf0 : 0 ≤ f.f3) (hf1 : f.f3 ≤ 29) (slot t : Int) (leaf : Prop) (hleaf : leaf → (rd_T64 c.sv (svIdx c.sv f.f0)).f5 = []) (d : Nat) :
    ∀ j, j < c.sv.length → RecRel f slot leaf (serveI c slot t d) (serveI (c.more f) slot t d) (nm4 j) := by
  induction d with
  | zero => intro j hj parent x x' len; exact ⟨trivial, fun _ _ => rfl⟩
  | succ d ih =>
    intro j hj parent x x' len
    have hr : rd_T64 c.sv (svIdx c.sv (nm4 j)) = c.sv[j] := by rw [hS.idx j hj]; exact rd64 _ _ hj
    have hw := hS.workV slot t j hj len
    have hnm := hS.name j hj
    have hsv : (c.more f).sv = c.sv := rfl
    have hch : (c.more f).ch = c.ch := rfl
    have hsd : (c.more f).seed = c.seed := rfl
    have hdl : (c.more f).delay = c.delay := rfl
    have hcl := calls_rel f slot leaf c.seed c.delay t ((len : Int) + 1) c.sv[j] (actV c.ch c.sv[j].f0 slot).2.2.2.2.2.1 (serveI c slot t d) (serveI (c.more f) slot t d) c.sv[j].f5 (fun nm hm => by
      obtain ⟨i, h1, h2, rfl⟩ := hS.calls j hj nm hm
      exact ih i h2)
    have hwf : workV (c.more f) slot t c.sv[j] len = workV c slot t c.sv[j] len ∨ (Conc f slot c.sv[j].f0 (actV c.ch c.sv[j].f0 slot).2.2.2.2.2.1 ∧ (workV (c.more f) slot t c.sv[j] len).1 = (workV c slot t c.sv[j] len).1 + f.f3) := by
      have e : workV (c.more f) slot t c.sv[j] len = faultsV c.sv[j].f0 (actV c.ch c.sv[j].f0 slot).2.2.2.2.2.1 slot (c.fl ++ [f]) (c.sv[j].f2 + rollV c.seed t ((len : Int) + 1) 1 % (c.sv[j].f3 + 1)) c.sv[j].f4 := rfl
      rw [e, faults_snoc]
      by_cases h : Conc f slot c.sv[j].f0 (actV c.ch c.sv[j].f0 slot).2.2.2.2.2.1
      · right
        rw [if_pos h]
        refine ⟨h, ?_⟩
        show wrap64 ((workV c slot t c.sv[j] len).1 + f.f3) = _
        unfold wrap64
        omega
      · left
        rw [if_neg h]
        rfl
    have hwc : ¬ Conc f slot c.sv[j].f0 (actV c.ch c.sv[j].f0 slot).2.2.2.2.2.1 ∨ (Conc f slot c.sv[j].f0 (actV c.ch c.sv[j].f0 slot).2.2.2.2.2.1 ∧ (workV (c.more f) slot t c.sv[j] len).1 = (workV c slot t c.sv[j] len).1 + f.f3) := by
      by_cases h : Conc f slot c.sv[j].f0 (actV c.ch c.sv[j].f0 slot).2.2.2.2.2.1
      · right
        refine ⟨h, ?_⟩
        have e : workV (c.more f) slot t c.sv[j] len = faultsV c.sv[j].f0 (actV c.ch c.sv[j].f0 slot).2.2.2.2.2.1 slot (c.fl ++ [f]) (c.sv[j].f2 + rollV c.seed t ((len : Int) + 1) 1 % (c.sv[j].f3 + 1)) c.sv[j].f4 := rfl
        rw [e, faults_snoc, if_pos h]
        show wrap64 ((workV c slot t c.sv[j] len).1 + f.f3) = _
        unfold wrap64
        omega
      · exact .inl h
    simp only [serveI, hsv, hch, hsd, hdl, hr]
    generalize hA : callsI c.seed c.delay t ((len : Int) + 1) c.sv[j] (actV c.ch c.sv[j].f0 slot).2.2.2.2.2.1 (serveI c slot t d) c.sv[j].f5 (x + (workV c slot t c.sv[j] len).1 / 2) (decide (rollV c.seed t ((len : Int) + 1) 4 % 1000000 < (workV c slot t c.sv[j] len).2)) (len + 1) = q
    generalize hB : callsI c.seed c.delay t ((len : Int) + 1) c.sv[j] (actV c.ch c.sv[j].f0 slot).2.2.2.2.2.1 (serveI (c.more f) slot t d) c.sv[j].f5 (x' + (workV (c.more f) slot t c.sv[j] len).1 / 2) (decide (rollV c.seed t ((len : Int) + 1) 4 % 1000000 < (workV (c.more f) slot t c.sv[j] len).2)) (len + 1) = q'
    obtain ⟨k1, k2⟩ := hcl (x + (workV c slot t c.sv[j] len).1 / 2) (x' + (workV (c.more f) slot t c.sv[j] len).1 / 2) (decide (rollV c.seed t ((len : Int) + 1) 4 % 1000000 < (workV c slot t c.sv[j] len).2)) (decide (rollV c.seed t ((len : Int) + 1) 4 % 1000000 < (workV (c.more f) slot t c.sv[j] len).2)) (len + 1)
    rw [hA, hB] at k1 k2
    refine ⟨⟨⟨rfl, rfl, rfl, rfl, fun hc hl => ?_⟩, k1⟩, fun hx hn => ?_⟩
    · have hcc : Conc f slot c.sv[j].f0 (actV c.ch c.sv[j].f0 slot).2.2.2.2.2.1 := hc.2
      rcases hwc with h | ⟨_, h⟩
      · exact absurd hcc h
      · have hlf := hleaf hl
        have hfn : svIdx c.sv f.f0 = svIdx c.sv (nm4 j) := by
          rw [← hnm]
          unfold svIdx
          rw [hcc.1]
        rw [hfn, hr] at hlf
        rw [hlf] at hA hB
        simp only [callsI] at hA hB
        subst hA hB
        dsimp only
        omega
    · have hno : ¬ Conc f slot c.sv[j].f0 (actV c.ch c.sv[j].f0 slot).2.2.2.2.2.1 := fun h => hn _ (List.mem_cons_self ..) ⟨rfl, h⟩
      have hw2 := hwf.resolve_right (fun h => hno h.1)
      have e := k2 (by rw [hx, hw2]) (by rw [hw2]) (fun a ha => hn a (by simp [ha]))
      subst e
      rw [hw2, hx]
def prs (c : Cfg) : List (Int × Int) := (List.range (c.sto - c.sfrom).toNat).flatMap fun (i : Nat) => (List.range c.per.toNat).map fun (k : Nat) => (c.sfrom + (i : Int), (k : Int))
theorem tracesI_map (c : Cfg) (f : Sp → Sp) : tracesI c f = (prs c).map fun q => ⟨traceId q.1 q.2, (traceI c q.1 q.2).map f⟩ := by
  unfold tracesI slotTr prs
  rw [List.map_flatMap]
  simp only [List.map_map]
  rfl
theorem prs_mem (c : Cfg) (q : Int × Int) (h : q ∈ prs c) : c.sfrom ≤ q.1 ∧ q.1 < c.sto ∧ 0 ≤ q.2 ∧ q.2 < c.per := by
  unfold prs at h
  obtain ⟨i, hi, hx⟩ := List.mem_flatMap.mp h
  obtain ⟨k, hk, rfl⟩ := List.mem_map.mp hx
  have := List.mem_range.mp hi
  have := List.mem_range.mp hk
  dsimp only
  omega
theorem traceI_len' (c : Cfg) (hS : Sys c) (slot k : Int) (hs0 : 0 ≤ slot) (hs1 : slot ≤ 1000) (hk0 : 0 ≤ k) (hk1 : k ≤ 1000) : (traceI c slot k).length ≤ 160 := by
  have hb := lng_le c.sv.length hS.n4
  have h0 := hS.n0
  have hB : BIG = 1152921504606846976 := rfl
  have he := (serve_eq c hS slot (traceId slot k) c.sv.length 0 (by omega) (by omega) 200 (by have := hS.n4; omega) 0 (1000 * slot + 7 * k) [] (by simp only [List.length_nil]; omega) (by omega) (by rw [hB]; omega)).2.2.2
  unfold traceI
  simp only [List.length_nil] at he
  omega
structure FRel (f : S61) (leaf : Prop) (x y : Tr) : Prop where
  len : y.l.length = x.l.length
  most : x.l.length ≤ 160
  dur : ∀ k (h : k < x.l.length) (h' : k < y.l.length), ConcS f (x.id / 1048576) x.l[k] → leaf → y.l[k].en - y.l[k].st = x.l[k].en - x.l[k].st + f.f3
  same : (∀ k (h : k < x.l.length), ¬ ConcS f (x.id / 1048576) x.l[k]) → y = x
theorem faults_rel (c : Cfg) (hS : Sys c) (f : S61) (hf0 : 0 ≤ f.f3) (hf1 : f.f3 ≤ 29) (leaf : Prop) (hleaf : leaf → (rd_T64 c.sv (svIdx c.sv f.f0)).f5 = []) (h0 : 0 ≤ c.sfrom) (h1 : c.sto ≤ 100) (hp : c.per ≤ 10) :
    (tracesI (c.more f) id).length = (tracesI c id).length ∧ ∀ i (h : i < (tracesI c id).length) (h' : i < (tracesI (c.more f) id).length), FRel f leaf (tracesI c id)[i] (tracesI (c.more f) id)[i] := by
  have hprs : prs (c.more f) = prs c := rfl
  refine ⟨by rw [tracesI_map, tracesI_map, hprs]; simp, fun i h h' => ?_⟩
  simp only [tracesI_map, hprs] at h h' ⊢
  rw [List.length_map] at h h'
  rw [List.getElem_map, List.getElem_map]
  obtain ⟨b0, b1, b2, b3⟩ := prs_mem c (prs c)[i] (List.getElem_mem h)
  generalize (prs c)[i] = q at b0 b1 b2 b3
  obtain ⟨s, k⟩ := q
  dsimp only at b0 b1 b2 b3 ⊢
  have hn0 := hS.n0
  obtain ⟨r1, r2⟩ := serve_rel c hS f hf0 hf1 s (traceId s k) leaf hleaf c.sv.length 0 (by omega) 0 (1000 * s + 7 * k) (1000 * s + 7 * k) 0
  have e1 : (serveI c s (traceId s k) c.sv.length (nm4 0) 0 (1000 * s + 7 * k) 0).2.2 = traceI c s k := rfl
  have e2 : (serveI (c.more f) s (traceId s k) c.sv.length (nm4 0) 0 (1000 * s + 7 * k) 0).2.2 = traceI (c.more f) s k := rfl
  rw [e1, e2] at r1
  rw [e1] at r2
  have hid : traceId s k / 1048576 = s := by unfold traceId; omega
  have hlen := traceI_len' c hS s k (by omega) (by omega) b2 (by omega)
  refine ⟨?_, ?_, ?_, ?_⟩
  · simp only [List.length_map]
    exact r1.len.symm
  · simpa using hlen
  · intro j hj hj'
    simp only [List.length_map] at hj hj'
    simp only [List.getElem_map, id]
    rw [hid]
    exact (r1.get j hj hj').dur
  · intro hn
    have hno : ∀ a ∈ traceI c s k, ¬ ConcS f s a := fun a ha => by
      obtain ⟨j, hj, rfl⟩ := List.getElem_of_mem ha
      have := hn j (by simpa using hj)
      simp only [List.getElem_map, id] at this
      rwa [hid] at this
    have e := r2 rfl hno
    have e3 : traceI (c.more f) s k = traceI c s k := by rw [← e1, ← e2, e]
    rw [e3]
end Go.Proofs.Ytdadnapfecmmdaa.P
namespace Go.Proofs.Ytdadnapfecmmdaa.P
open Go.RowKit Go.Proofs.YtdadnapfecmmdaaW.PrintWords Go.Proofs.YtdadnapfecmmdaaW.PrintLast Go.Proofs.YtdadnapfecmmdaaW.PrintMore
attribute [local go_sem] max2_int min2_int max_two min_two max_three min_three max_four min_four   -- for this text's walks alone
set_option linter.unusedVariables false
set_option linter.unusedSimpArgs false
def slices_Compare_int_int.l0 : Nat → List Int → List Int → List Int → Int → Int → Option (Int)
  | 0, _, _, _, _, _ => none
  | k + 1, x0, x1, x9, x10, x11 => if x11 < x10 then (if 0 ≤ x11 then (if x11 < (x9.length : Int) then (if x11 ≥ (x1.length : Int) then (some 1) else (if x11 < (x1.length : Int) then ((cmp_Compare_int.f (rd x9 x11) (rd x1 x11)).bind fun t208 => (if t208 = 0 then (slices_Compare_int_int.l0 k x0 x1 x9 x10 (wrap64 (x11 + 1))) else (some t208))) else (none))) else (none)) else (none)) else (if (x0.length : Int) < (x1.length : Int) then (some (-1)) else (some 0))
def slices_Compare_int_int.f (k : Nat) (l0 : List Int) (l1 : List Int) : Option (Int) := slices_Compare_int_int.l0 k l0 l1 l0 (l0.length : Int) 0
theorem slices_Compare_int_int.mono_l : ∀ k, (∀ y0 y1 y2 y3 y4, LeO (slices_Compare_int_int.l0 k y0 y1 y2 y3 y4) (slices_Compare_int_int.l0 (k + 1) y0 y1 y2 y3 y4))
  | 0 => fun _ _ _ _ _ r h => by simp [slices_Compare_int_int.l0] at h
  | k + 1 => by
    have ih0 := slices_Compare_int_int.mono_l k
    · intro y0 y1 y2 y3 y4
      unfold slices_Compare_int_int.l0
      repeat' first
      | (with_reducible exact ih0 _ _ _ _ _)
      | (with_reducible exact LeO.refl _)
      | (with_reducible exact LeO.none _)
      | (with_reducible refine LeO.ite ?_ ?_)
      | (with_reducible refine LeO.bind ?_ (fun _ => ?_))
      | exact ih0 _ _ _ _ _
      | exact LeO.none _
      | refine LeO.ite ?_ ?_
      | refine LeO.bind ?_ (fun _ => ?_)
theorem slices_Compare_int_int.mono : ∀ a0 a1 k, LeO (slices_Compare_int_int.f k a0 a1) (slices_Compare_int_int.f (k + 1) a0 a1) := by
  intro a0 a1 k
  have ih0 := slices_Compare_int_int.mono_l k
  unfold slices_Compare_int_int.f
  repeat' first
      | (with_reducible exact ih0 _ _ _ _ _)
      | (with_reducible exact LeO.refl _)
      | (with_reducible exact LeO.none _)
      | (with_reducible refine LeO.ite ?_ ?_)
      | (with_reducible refine LeO.bind ?_ (fun _ => ?_))
      | exact ih0 _ _ _ _ _
      | exact LeO.none _
      | refine LeO.ite ?_ ?_
      | refine LeO.bind ?_ (fun _ => ?_)
set_option maxHeartbeats 8000000 in
set_option maxRecDepth 100000 in
theorem slices_Compare_int_int.calls (k : Nat) (A0 : Option Addr) (c0 : Nat) (l0 : List Int) (A1 : Option Addr) (c1 : Nat) (l1 : List Int) (r : Int) (w : World) (hr0 : Kd.C (Kd.int .i64) w A0 l0.length l0) (hc0 : l0.length ≤ c0) (hr1 : Kd.C (Kd.int .i64) w A1 l1.length l1) (hc1 : l1.length ≤ c1) (h : slices_Compare_int_int.f k l0 l1 = some r) :
    Calls Try.prog 116 #[.slice A0 l0.length c0, .slice A1 l1.length c1] w fun e w' => e = .returned (.int .i64 r) ∧ Drawn0 w w' := by
  have HR0 := Aside0.mk hr0
  have HC0 := Aside0.mk hc0
  clear hr0 hc0
  have HR1 := Aside0.mk hr1
  have HC1 := Aside0.mk hc1
  clear hr1 hc1
  have H : (slices_Compare_int_int.l0 k l0 l1 l0 (l0.length : Int) 0) = some r := h
  clear h
  have H' := Aside0.mk H
  clear H
  go_enter Try.func116, Try.ntmps116
  go_wp2
  go_loopg [11] k (fun kq v11 w' => ∃ (x11_1 : Int), v11 = .int .i64 x11_1 ∧ Aside0 (slices_Compare_int_int.l0 kq l0 l1 l0 (l0.length : Int) x11_1 = some r) ∧ Aside0 (kq ≤ k) ∧ Drawn0 w w')
  case atStart => exact ⟨(0), (by first | rfl | (simp; done) | (simp [*]; done)), H', ⟨Nat.le_refl _⟩, by repeat (first | exact Drawn0.refl _ | apply Drawn0.step)⟩
  case round =>
    clear H'
    try clear c1
    try clear p2
    obtain ⟨x11_1, rfl, HA, HK1, ⟨m1, rfl⟩⟩ := hrel
    cases gk with
    | zero => exact absurd HA.out (by simp [slices_Compare_int_int.l0])
    | succ k1 =>
      have H := HA.out
      clear HA
      simp only [slices_Compare_int_int.l0] at H
      by_cases c3 : x11_1 < (l0.length : Int)
      · rw [if_pos c3] at H
        have c3b0 : decide (x11_1 < (l0.length : Int)) = true := decide_eq_true c3
        clear c3
        by_cases c4 : 0 ≤ x11_1
        · rw [if_pos c4] at H
          have c4b0 : decide (0 ≤ x11_1) = true := decide_eq_true c4
          clear c4
          by_cases c5 : x11_1 < (l0.length : Int)
          · rw [if_pos c5] at H
            have c5b0 : decide (x11_1 < (l0.length : Int)) = true := decide_eq_true c5
            clear c5
            by_cases c6 : x11_1 ≥ (l1.length : Int)
            · rw [if_pos c6] at H
              have c6b0 : decide ((l1.length : Int) ≤ x11_1) = true := decide_eq_true c6
              clear c6
              obtain rfl := Option.some.inj H
              have p206 : 0 ≤ (x11_1 : Int) := of_decide_eq_true (by first | (with_reducible assumption) | assumption)
              have q206 : x11_1 < (l0.length : Int) := of_decide_eq_true (by first | (with_reducible assumption) | assumption)
              obtain ⟨ad206, e206, hx206_0⟩ := Kd.at_int HR0.out x11_1 p206 q206
              cases e206
              replace p206 := eq_true p206
              replace q206 := eq_true q206
              go_wp2
              go_ret
              exact ⟨by first | rfl | (simp; done) | (simp [*]; done), by repeat (first | exact Drawn0.refl _ | apply Drawn0.step)⟩
            · rw [if_neg c6] at H
              have c6b0 : decide ((l1.length : Int) ≤ x11_1) = false := decide_eq_false c6
              clear c6
              by_cases c7 : x11_1 < (l1.length : Int)
              · rw [if_pos c7] at H
                have c7b0 : decide (x11_1 < (l1.length : Int)) = true := decide_eq_true c7
                clear c7
                replace H := Option.bind_eq_some_iff.mp H
                obtain ⟨t208, A80, H⟩ := H
                replace H : (if t208 = 0 then (slices_Compare_int_int.l0 k1 l0 l1 l0 (l0.length : Int) (wrap64 (x11_1 + 1))) else (some t208)) = some r := H
                have A8 := Aside0.mk A80
                clear A80
                by_cases c9 : t208 = 0
                · rw [if_pos c9] at H
                  have c9b0 : (t208 == 0) = true := beq_iff_eq.mpr c9
                  have c9b1 : (t208 != 0) = false := bne_eq_false_iff_eq.mpr c9
                  clear c9
                  have H' := Aside0.mk H
                  clear H
                  have p206 : 0 ≤ (x11_1 : Int) := of_decide_eq_true (by first | (with_reducible assumption) | assumption)
                  have q206 : x11_1 < (l0.length : Int) := of_decide_eq_true (by first | (with_reducible assumption) | assumption)
                  obtain ⟨ad206, e206, hx206_0⟩ := Kd.at_int HR0.out x11_1 p206 q206
                  cases e206
                  replace p206 := eq_true p206
                  replace q206 := eq_true q206
                  have p207 : 0 ≤ (x11_1 : Int) := of_decide_eq_true (by first | (with_reducible assumption) | assumption)
                  have q207 : x11_1 < (l1.length : Int) := of_decide_eq_true (by first | (with_reducible assumption) | assumption)
                  obtain ⟨ad207, e207, hx207_0⟩ := Kd.at_int HR1.out x11_1 p207 q207
                  cases e207
                  replace p207 := eq_true p207
                  replace q207 := eq_true q207
                  go_wp2_with (first | ((with_reducible refine gate_callee (f := 64) rfl ?_); refine goesL_ (some 26) rfl rfl Try.func64 (by kernel_rfl) rfl #[.int .i64 (rd l0 x11_1), .int .i64 (rd l1 x11_1)] rfl (by (try simp only [List.map_toArray, List.map_cons, List.map_nil]); first | done | rfl | (simp only [List.length_drop, List.length_take]; rfl)) ?_; (with_reducible refine (cmp_Compare_int.calls (rd l0 x11_1) (rd l1 x11_1) t208 _ A8.out).mono ?_); rintro e w' ⟨rfl, ⟨nd, rfl⟩⟩; refine ⟨_, rfl, ?_⟩))
                  go_roundg k1
                  case measure => have := HK1.out; omega
                  case rel => exact ⟨(wrap64 (x11_1 + 1)), (by first | rfl | (simp; done) | (simp [*]; done)), H', ⟨by have := HK1.out; omega⟩, by repeat (first | exact Drawn0.refl _ | apply Drawn0.step)⟩
                · rw [if_neg c9] at H
                  have c9b0 : (t208 == 0) = false := beq_eq_false_iff_ne.mpr c9
                  have c9b1 : (t208 != 0) = true := bne_iff_ne.mpr c9
                  obtain rfl := Option.some.inj H
                  have p206 : 0 ≤ (x11_1 : Int) := of_decide_eq_true (by first | (with_reducible assumption) | assumption)
                  have q206 : x11_1 < (l0.length : Int) := of_decide_eq_true (by first | (with_reducible assumption) | assumption)
                  obtain ⟨ad206, e206, hx206_0⟩ := Kd.at_int HR0.out x11_1 p206 q206
                  cases e206
                  replace p206 := eq_true p206
                  replace q206 := eq_true q206
                  have p207 : 0 ≤ (x11_1 : Int) := of_decide_eq_true (by first | (with_reducible assumption) | assumption)
                  have q207 : x11_1 < (l1.length : Int) := of_decide_eq_true (by first | (with_reducible assumption) | assumption)
                  obtain ⟨ad207, e207, hx207_0⟩ := Kd.at_int HR1.out x11_1 p207 q207
                  cases e207
                  replace p207 := eq_true p207
                  replace q207 := eq_true q207
                  go_wp2_with (first | ((with_reducible refine gate_callee (f := 64) rfl ?_); refine goesL_ (some 26) rfl rfl Try.func64 (by kernel_rfl) rfl #[.int .i64 (rd l0 x11_1), .int .i64 (rd l1 x11_1)] rfl (by (try simp only [List.map_toArray, List.map_cons, List.map_nil]); first | done | rfl | (simp only [List.length_drop, List.length_take]; rfl)) ?_; (with_reducible refine (cmp_Compare_int.calls (rd l0 x11_1) (rd l1 x11_1) t208 _ A8.out).mono ?_); rintro e w' ⟨rfl, ⟨nd, rfl⟩⟩; refine ⟨_, rfl, ?_⟩))
                  go_ret
                  exact ⟨by first | rfl | (simp; done) | (simp [*]; done), by repeat (first | exact Drawn0.refl _ | apply Drawn0.step)⟩
              · rw [if_neg c7] at H
                exact absurd H (by simp)
          · rw [if_neg c5] at H
            exact absurd H (by simp)
        · rw [if_neg c4] at H
          exact absurd H (by simp)
      · rw [if_neg c3] at H
        have c3b0 : decide (x11_1 < (l0.length : Int)) = false := decide_eq_false c3
        clear c3
        by_cases c10 : (l0.length : Int) < (l1.length : Int)
        · rw [if_pos c10] at H
          have c10b0 : decide ((l0.length : Int) < (l1.length : Int)) = true := decide_eq_true c10
          have c10b1 : decide (l0.length < l1.length) = true := decide_eq_true (Int.ofNat_lt.mp c10)
          clear c10
          obtain rfl := Option.some.inj H
          go_wp2
          go_ret
          exact ⟨by first | rfl | (simp; done) | (simp [*]; done), by repeat (first | exact Drawn0.refl _ | apply Drawn0.step)⟩
        · rw [if_neg c10] at H
          have c10b0 : decide ((l0.length : Int) < (l1.length : Int)) = false := decide_eq_false c10
          have c10b1 : decide (l0.length < l1.length) = false := decide_eq_false (fun h => c10 (Int.ofNat_lt.mpr h))
          clear c10
          obtain rfl := Option.some.inj H
          go_wp2
          go_ret
          exact ⟨by first | rfl | (simp; done) | (simp [*]; done), by repeat (first | exact Drawn0.refl _ | apply Drawn0.step)⟩
def span_number.f (a0 : Bool) : Option (Int) := if a0 = true then (some 1) else (some 0)
set_option maxHeartbeats 8000000 in
set_option maxRecDepth 100000 in
theorem span_number.calls (a0 : Bool) (r : Int) (w : World) (h : span_number.f a0 = some r) :
    Calls Try.prog 117 #[.bool a0] w fun e w' => e = .returned (.int .i64 r) ∧ Drawn0 w w' := by
  have H : (if a0 = true then (some 1) else (some 0)) = some r := h
  clear h
  by_cases c2 : a0 = true
  · subst c2
    have H1 : (some 1) = some r := by rw [if_pos rfl] at H; exact H
    clear H
    have H := H1
    clear H1
    obtain rfl := Option.some.inj H
    go_enter Try.func117, Try.ntmps117
    go_wp2
    go_ret
    exact ⟨by first | rfl | (simp; done) | (simp [*]; done), by repeat (first | exact Drawn0.refl _ | apply Drawn0.step)⟩
  · replace c2 := Bool.eq_false_iff.mpr c2
    subst c2
    have H1 : (some 0) = some r := by rw [if_neg (show ¬ (false = true) by decide)] at H; exact H
    clear H
    have H := H1
    clear H1
    obtain rfl := Option.some.inj H
    go_enter Try.func117, Try.ntmps117
    go_wp2
    go_ret
    exact ⟨by first | rfl | (simp; done) | (simp [*]; done), by repeat (first | exact Drawn0.refl _ | apply Drawn0.step)⟩
end Go.Proofs.Ytdadnapfecmmdaa.P
