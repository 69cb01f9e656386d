/- Own texts of a proof about layer 55's simulate (merged): Ve, Vf, Sr, Vg, Lv, Po. -/
import Derived.Test.YtdadnapfecmmdaaVm11
import Derived.Test.YtdadnapfecmmdaaVm12
import Derived.Test.YtdadnapfecmmdaaVm14
import Derived.Test.YtdadnapfecmmdaaVm3
import Derived.Test.YtdadnapfecmmdaaVm5
import Derived.Deep.DeepMust
import Derived.WalkKit
import Derived.ProofKit
import Derived.OpenShut
import Derived.ChangeOld
import Derived.Deep.Slices
namespace Go.Proofs.Ytdadnapfecmmdaa.P
set_option linter.unusedVariables false
set_option linter.unusedSimpArgs false
open Go.RowKit Go.Proofs.YtdadnapfecmmdaaW.PrintWords Go.Proofs.YtdadnapfecmmdaaW.PrintLast Go.Proofs.YtdadnapfecmmdaaW.PrintMore
open Go.Proofs.Ytdadnapfecmmdaa.Hm
structure Sys (c : Cfg) : Prop where
  n0 : 1 ≤ c.sv.length
  n4 : c.sv.length ≤ 4
  name : ∀ i (h : i < c.sv.length), c.sv[i].f0 = nm4 i
  calls : ∀ i (h : i < c.sv.length), ∀ nm ∈ c.sv[i].f5, ∃ j, i < j ∧ j < c.sv.length ∧ nm = nm4 j
  clen : ∀ i (h : i < c.sv.length), c.sv[i].f5.length ≤ 3
  work : ∀ i (h : i < c.sv.length), 0 ≤ c.sv[i].f2 ∧ c.sv[i].f2 ≤ 19 ∧ 0 ≤ c.sv[i].f3 ∧ c.sv[i].f3 ≤ 9
  fault : ∀ x ∈ c.fl, 0 ≤ x.f3 ∧ x.f3 ≤ 29
  faults : c.fl.length ≤ 3
  delay0 : 0 ≤ c.delay
  delay1 : c.delay ≤ 5
  chg : c.ch.length ≤ 12
theorem plan_sys (p : Plan) (hok : PlanOk p) : Sys (p.cfg chgs47) := by
  have h4 := plan_n4 p
  have h0 := plan_n0 p
  have hl := sv_len p
  refine ⟨?_, ?_, ?_, ?_, ?_, ?_, ?_, ?_, ?_, ?_, chgs_len _⟩ <;> simp only [Plan.cfg]
  · omega
  · omega
  · intro i h; rw [sv_get]; rfl
  · intro i h nm hnm
    rw [sv_get] at hnm
    obtain ⟨j, h1, h2, rfl⟩ := calls_mem _ _ _ _ _ hnm
    exact ⟨j, h1, by omega, rfl⟩
  · intro i h; rw [sv_get]; exact callsOf_len _ _ _ _
  · intro i h; rw [sv_get]; simp only [svOf]; omega
  · intro x hx
    unfold Plan.flts at hx
    obtain ⟨y, _, rfl⟩ := List.mem_map.mp hx
    simp only [trOf]; omega
  · unfold Plan.flts; simp; omega
  · omega
  · omega
theorem smC_take (l : List S64) (hn : ∀ i (h : i < l.length), l[i].f0 = nm4 i) (h4 : l.length ≤ 4) (k : Nat) (hk : k ≤ l.length) : ∀ j (hj : j < k), mget (smC (l.take k)) (nm4 j) = some ⟨l[j]'(by omega), none, 0⟩ := by
  induction k with
  | zero => intro j hj; omega
  | succ k ih =>
    intro j hj
    rw [List.take_succ_eq_append_getElem (by omega), smC_snoc]
    rw [hn k (by omega)]
    by_cases h : j = k
    · subst h
      rw [mget_put_same]
    · rw [mget_put_other _ _ _ _ (fun e => h (nm4_inj _ _ (by omega) (by omega) e))]
      exact ih (by omega) j (by omega)
theorem Sys.look {c : Cfg} (hS : Sys c) (j : Nat) (hj : j < c.sv.length) : mget (smC c.sv) (nm4 j) = some ⟨c.sv[j], none, 0⟩ := by
  have h := smC_take c.sv hS.name hS.n4 c.sv.length (Nat.le_refl _) j hj
  rwa [List.take_length] at h
theorem Sys.idx {c : Cfg} (hS : Sys c) (j : Nat) (hj : j < c.sv.length) : svIdx c.sv (nm4 j) = (j : Int) := by
  have h4 := hS.n4
  unfold svIdx
  refine idxBy_hit _ _ j hj ?_ (fun i hi => ?_)
  · rw [hS.name]; simp
  · rw [hS.name]
    show ((nm4 i).toList == (nm4 j).toList) = false
    rw [nm4_eq i j (by omega) (by omega)]
    simp; omega
abbrev Res := Int × Bool × List Sp
def callsI (seed delay t i : Int) (x : S64) (ver : ByteArray) (rec : ByteArray → Int → Int → Nat → Res) : List ByteArray → Int → Bool → Nat → Res
  | [], y, fl, _ => (y, fl, [])
  | nm :: r, y, fl, len =>
    let q := rec nm ((len : Int) + 1) (y + delay + rollV seed t ((len : Int) + 1) 2 % (delay + 1)) (len + 1)
    let z := q.1 + delay + rollV seed t ((len : Int) + 1) 3 % (delay + 1)
    let s := callsI seed delay t i x ver rec r z (fl || q.2.1) (len + 1 + q.2.2.length)
    (s.1, s.2.1, ⟨t, (len : Int) + 1, i, 0, x.f1, 2, x.f0, ver, strCall, y, z, q.2.1⟩ :: (q.2.2 ++ s.2.2))
def workV (c : Cfg) (slot t : Int) (sv : S64) (len : Nat) : Int × Int := faultsV sv.f0 (actV c.ch sv.f0 slot).2.2.2.2.2.1 slot c.fl (sv.f2 + rollV c.seed t ((len : Int) + 1) 1 % (sv.f3 + 1)) sv.f4
def serveI (c : Cfg) (slot t : Int) : Nat → ByteArray → Int → Int → Nat → Res
  | 0, _, _, _, _ => (0, false, [])
  | d + 1, nm, parent, x, len =>
    let sv := rd_T64 c.sv (svIdx c.sv nm)
    let ver := (actV c.ch sv.f0 slot).2.2.2.2.2.1
    let wf := workV c slot t sv len
    let q := callsI c.seed c.delay t ((len : Int) + 1) sv ver (serveI c slot t d) sv.f5 (x + wf.1 / 2) (decide (rollV c.seed t ((len : Int) + 1) 4 % 1000000 < wf.2)) (len + 1)
    (q.1 + wf.1 - wf.1 / 2, q.2.1, ⟨t, (len : Int) + 1, parent, 0, sv.f1, 3, sv.f0, ver, strServe, x, q.1 + wf.1 - wf.1 / 2, q.2.1⟩ :: q.2.2)
def tim : Nat → Int
  | 0 => 0
  | d + 1 => 200 + 3 * (tim d + 30)
def lng : Nat → Nat
  | 0 => 0
  | d + 1 => 4 + 3 * lng d
theorem setEnd_snoc (l m : List Sp) (s : Sp) (en : Int) (err : Bool) : setEnd (l ++ s :: m) l.length en err = l ++ { s with en := en, err := err } :: m := by
  unfold setEnd
  rw [List.modify_eq_take_cons_drop (by simp)]
  simp
def RecOk (rec : ByteArray → Int → Int → List Sp → Option (Int × Bool × List Sp)) (recI : ByteArray → Int → Int → Nat → Res) (B : Nat) (T : Int) (nm : ByteArray) : Prop :=
  ∀ parent x (l : List Sp), l.length + B ≤ 1000 → 0 ≤ x → x + T ≤ BIG →
    (rec nm parent x l = some ((recI nm parent x l.length).1, (recI nm parent x l.length).2.1, l ++ (recI nm parent x l.length).2.2)) ∧ x ≤ (recI nm parent x l.length).1 ∧ (recI nm parent x l.length).1 ≤ x + T ∧ (recI nm parent x l.length).2.2.length ≤ B
theorem calls_eq (seed delay t i : Int) (x : S64) (ver : ByteArray) (rec : ByteArray → Int → Int → List Sp → Option (Int × Bool × List Sp)) (recI : ByteArray → Int → Int → Nat → Res) (B : Nat) (T : Int) (hd0 : 0 ≤ delay) (hd1 : delay ≤ 5) (hT : 0 ≤ T) :
    ∀ (cl : List ByteArray), (∀ nm ∈ cl, RecOk rec recI B T nm) → ∀ (y : Int) (fl : Bool) (l : List Sp), l.length + cl.length * (1 + B) ≤ 1000 → 0 ≤ y → y + (cl.length : Int) * (T + 30) ≤ BIG →
      (callsV seed delay t i x ver rec cl y fl l = some ((callsI seed delay t i x ver recI cl y fl l.length).1, (callsI seed delay t i x ver recI cl y fl l.length).2.1, l ++ (callsI seed delay t i x ver recI cl y fl l.length).2.2)) ∧ y ≤ (callsI seed delay t i x ver recI cl y fl l.length).1 ∧ (callsI seed delay t i x ver recI cl y fl l.length).1 ≤ y + (cl.length : Int) * (T + 30) ∧ (callsI seed delay t i x ver recI cl y fl l.length).2.2.length ≤ cl.length * (1 + B) := by
  intro cl
  induction cl with
  | nil => intro _ y fl l _ h0 _; simp [callsV, callsI]
  | cons nm r ih =>
    intro hrec y fl l hl h0 hy
    simp only [List.length_cons] at hl hy ⊢
    have m1 : (r.length + 1) * (1 + B) = r.length * (1 + B) + (1 + B) := Nat.succ_mul _ _
    have m2 : ((r.length + 1 : Nat) : Int) * (T + 30) = (r.length : Int) * (T + 30) + (T + 30) := by
      rw [Int.natCast_add, Int.add_mul]; simp
    have m3 : 0 ≤ (r.length : Int) * (T + 30) := Int.mul_nonneg (by omega) (by omega)
    rw [m1] at hl ⊢
    rw [m2] at hy ⊢
    have hih := ih (fun nm hnm => hrec nm (by simp [hnm]))
    clear ih m1 m2
    generalize r.length * (1 + B) = P at hl hih ⊢
    generalize (r.length : Int) * (T + 30) = Q at hy m3 hih ⊢
    have r2 := Int.emod_nonneg (rollV seed t ((l.length : Int) + 1) 2) (show delay + 1 ≠ 0 by omega)
    have r2' := Int.emod_lt_of_pos (rollV seed t ((l.length : Int) + 1) 2) (show 0 < delay + 1 by omega)
    have r3 := Int.emod_nonneg (rollV seed t ((l.length : Int) + 1) 3) (show delay + 1 ≠ 0 by omega)
    have r3' := Int.emod_lt_of_pos (rollV seed t ((l.length : Int) + 1) 3) (show 0 < delay + 1 by omega)
    obtain ⟨h1, h2, h3, h4⟩ := hrec nm (by simp) ((l.length : Int) + 1) (y + delay + rollV seed t ((l.length : Int) + 1) 2 % (delay + 1)) (l ++ [⟨t, (l.length : Int) + 1, i, 0, x.f1, 2, x.f0, ver, strCall, y, 0, false⟩]) (by simp only [List.length_append, List.length_singleton]; omega) (by omega) (by omega)
    rw [show (l ++ [(⟨t, (l.length : Int) + 1, i, 0, x.f1, 2, x.f0, ver, strCall, y, 0, false⟩ : Sp)]).length = l.length + 1 from by simp] at h1 h2 h3 h4
    simp only [callsV, callsI]
    generalize recI nm ((l.length : Int) + 1) (y + delay + rollV seed t ((l.length : Int) + 1) 2 % (delay + 1)) (l.length + 1) = q at h1 h2 h3 h4 ⊢
    obtain ⟨q1, q2, q3⟩ := q
    dsimp only at h1 h2 h3 h4 ⊢
    rw [if_pos ⟨by omega, h0, by omega⟩, h1]
    simp only [Option.bind_some]
    rw [if_pos ⟨by omega, by omega, by simp⟩]
    rw [List.append_assoc, List.singleton_append, setEnd_snoc]
    have hlen : (l ++ (⟨t, (l.length : Int) + 1, i, 0, x.f1, 2, x.f0, ver, strCall, y, q1 + delay + rollV seed t ((l.length : Int) + 1) 3 % (delay + 1), q2⟩ : Sp) :: q3).length = l.length + 1 + q3.length := by simp; omega
    obtain ⟨g1, g2, g3, g4⟩ := hih (q1 + delay + rollV seed t ((l.length : Int) + 1) 3 % (delay + 1)) (fl || q2) (l ++ (⟨t, (l.length : Int) + 1, i, 0, x.f1, 2, x.f0, ver, strCall, y, q1 + delay + rollV seed t ((l.length : Int) + 1) 3 % (delay + 1), q2⟩ : Sp) :: q3) (by rw [hlen]; omega) (by omega) (by omega)
    rw [hlen] at g1 g2 g3 g4
    refine ⟨?_, by omega, by omega, by simp only [List.length_cons, List.length_append]; omega⟩
    rw [g1]
    simp
theorem faults_bound (name ver : ByteArray) (slot : Int) (l : List S61) (hl : ∀ x ∈ l, 0 ≤ x.f3 ∧ x.f3 ≤ 29) (hn : l.length ≤ 3) : ∀ w f, 0 ≤ w → w + 29 * (l.length : Int) ≤ 1000 → w ≤ (faultsV name ver slot l w f).1 ∧ (faultsV name ver slot l w f).1 ≤ w + 29 * l.length := by
  induction l with
  | nil => intro w f h0 h1; simp [faultsV]
  | cons x r ih =>
    intro w f h0 h1
    obtain ⟨a, b⟩ := hl x (by simp)
    simp only [List.length_cons] at hn h1 ⊢
    have hw : wrap64 (w + x.f3) = w + x.f3 := by unfold wrap64; omega
    have ih' := ih (fun y hy => hl y (by simp [hy])) (by omega)
    simp only [faultsV]
    split
    · rw [hw]
      have := ih' (w + x.f3) (wrap64 (f + x.f4)) (by omega) (by omega)
      omega
    · have := ih' w f h0 (by omega)
      omega
theorem Sys.workV {c : Cfg} (hS : Sys c) (slot t : Int) (j : Nat) (hj : j < c.sv.length) (len : Nat) : 0 ≤ (workV c slot t c.sv[j] len).1 ∧ (workV c slot t c.sv[j] len).1 ≤ 200 := by
  obtain ⟨a, b, e, d⟩ := hS.work j hj
  have r := Int.emod_nonneg (rollV c.seed t ((len : Int) + 1) 1) (show c.sv[j].f3 + 1 ≠ 0 by omega)
  have r' := Int.emod_lt_of_pos (rollV c.seed t ((len : Int) + 1) 1) (show 0 < c.sv[j].f3 + 1 by omega)
  have := faults_bound c.sv[j].f0 (actV c.ch c.sv[j].f0 slot).2.2.2.2.2.1 slot c.fl hS.fault hS.faults (c.sv[j].f2 + rollV c.seed t ((len : Int) + 1) 1 % (c.sv[j].f3 + 1)) c.sv[j].f4 (by omega) (by have := hS.faults; omega)
  have hf := hS.faults
  unfold P.workV
  omega
theorem tim_pos (d : Nat) : 0 ≤ tim d := by
  induction d with
  | zero => simp [tim]
  | succ d ih => simp only [tim]; omega
theorem serve_eq (c : Cfg) (hS : Sys c) (slot t : Int) (d : Nat) : ∀ j, j < c.sv.length → c.sv.length ≤ j + d → ∀ m, 100 + d ≤ m → RecOk (serveV c slot t (smC c.sv) m) (serveI c slot t d) (lng d) (tim d) (nm4 j) := by
  induction d with
  | zero => intro j hj hd; omega
  | succ d ih =>
    intro j hj hd m hm parent x l hl h0 hx
    obtain ⟨m, rfl⟩ : ∃ q, m = q + 1 := ⟨m - 1, by omega⟩
    have hw := hS.workV slot t j hj l.length
    have hwk := hS.work j hj
    have hcl := hS.clen j hj
    have hT := tim_pos d
    have hac := (act_ok c.ch (by have := hS.chg; omega) c.sv[j].f0 slot).1 m (by omega)
    have hr : rd_T64 c.sv (svIdx c.sv (nm4 j)) = c.sv[j] := by rw [hS.idx j hj]; exact rd64 _ _ hj
    have hnm := hS.name j hj
    have hb1 : c.sv[j].f5.length * (1 + lng d) ≤ 3 * (1 + lng d) := Nat.mul_le_mul_right _ hcl
    have hb2 : (c.sv[j].f5.length : Int) * (tim d + 30) ≤ 3 * (tim d + 30) := Int.mul_le_mul_of_nonneg_right (by omega) (by omega)
    simp only [tim, lng] at hl hx ⊢
    have hc := calls_eq c.seed c.delay t ((l.length : Int) + 1) c.sv[j] (actV c.ch c.sv[j].f0 slot).2.2.2.2.2.1 (serveV c slot t (smC c.sv) m) (serveI c slot t d) (lng d) (tim d) hS.delay0 hS.delay1 hT c.sv[j].f5
      (fun nm hnm => by
        obtain ⟨i, h1, h2, rfl⟩ := hS.calls j hj nm hnm
        exact ih i h2 (by omega) m (by omega))
      (x + (workV c slot t c.sv[j] l.length).1 / 2) (decide (rollV c.seed t ((l.length : Int) + 1) 4 % 1000000 < (workV c slot t c.sv[j] l.length).2))
      (l ++ [⟨t, (l.length : Int) + 1, parent, 0, c.sv[j].f1, 3, c.sv[j].f0, (actV c.ch c.sv[j].f0 slot).2.2.2.2.2.1, strServe, x, 0, false⟩]) (by simp only [List.length_append, List.length_singleton]; omega) (by omega) (by omega)
    rw [show (l ++ [(⟨t, (l.length : Int) + 1, parent, 0, c.sv[j].f1, 3, c.sv[j].f0, (actV c.ch c.sv[j].f0 slot).2.2.2.2.2.1, strServe, x, 0, false⟩ : Sp)]).length = l.length + 1 from by simp] at hc
    simp only [serveV, serveI, hS.look j hj, Option.bind_some, hr]
    rw [← hnm, hac]
    simp only [Option.bind_some]
    have hW : faultsV c.sv[j].f0 (actV c.ch c.sv[j].f0 slot).2.2.2.2.2.1 slot c.fl (c.sv[j].f2 + rollV c.seed t ((l.length : Int) + 1) 1 % (c.sv[j].f3 + 1)) c.sv[j].f4 = workV c slot t c.sv[j] l.length := rfl
    rw [hW]
    generalize workV c slot t c.sv[j] l.length = wf at hw hc ⊢
    generalize callsI c.seed c.delay t ((l.length : Int) + 1) c.sv[j] (actV c.ch c.sv[j].f0 slot).2.2.2.2.2.1 (serveI c slot t d) c.sv[j].f5 (x + wf.1 / 2) (decide (rollV c.seed t ((l.length : Int) + 1) 4 % 1000000 < wf.2)) (l.length + 1) = q at hc ⊢
    obtain ⟨q1, q2, q3⟩ := q
    obtain ⟨wf1, wf2⟩ := wf
    dsimp only at hc hw ⊢
    obtain ⟨g1, g2, g3, g4⟩ := hc
    rw [if_pos ⟨by omega, h0, by omega, by omega, by omega, by omega, by omega⟩, if_pos ⟨by omega, by omega⟩, g1]
    simp only [Option.bind_some]
    rw [if_pos ⟨by omega, by omega, by simp⟩]
    rw [List.append_assoc, List.singleton_append, setEnd_snoc]
    refine ⟨rfl, by omega, by omega, by simp only [List.length_cons]; omega⟩
end Go.Proofs.Ytdadnapfecmmdaa.P
namespace Go.Proofs.Ytdadnapfecmmdaa.P
set_option linter.unusedVariables false
set_option linter.unusedSimpArgs false
open Go.RowKit Go.Proofs.YtdadnapfecmmdaaW.PrintWords Go.Proofs.YtdadnapfecmmdaaW.PrintLast Go.Proofs.YtdadnapfecmmdaaW.PrintMore
open Go.Proofs.Ytdadnapfecmmdaa.Hm
def traceId (slot k : Int) : Int := slot * 1048576 + 1 + k
def traceI (c : Cfg) (slot k : Int) : List Sp := (serveI c slot (traceId slot k) c.sv.length (nm4 0) 0 (1000 * slot + 7 * k) 0).2.2
theorem traceI_cons (c : Cfg) (hS : Sys c) (slot k : Int) : ∃ s r, traceI c slot k = s :: r ∧ s.tr = traceId slot k := by
  unfold traceI
  obtain ⟨d, hd⟩ : ∃ d, c.sv.length = d + 1 := ⟨c.sv.length - 1, by have := hS.n0; omega⟩
  rw [hd]
  exact ⟨_, _, rfl, rfl⟩
theorem lng_le (d : Nat) (h : d ≤ 4) : lng d ≤ 160 ∧ tim d ≤ 11600 := by
  match d, h with
  | 0, _ => decide
  | 1, _ => decide
  | 2, _ => decide
  | 3, _ => decide
  | 4, _ => decide
theorem trace_eq (c : Cfg) (hS : Sys c) (slot k : Int) (m : Nat) (hm : 110 ≤ m) (hs0 : 0 ≤ slot) (hs1 : slot ≤ 1000) (hk0 : 0 ≤ k) (hk1 : k ≤ 1000) : traceV m c slot k = some (traceI c slot k) := by
  have h0 := hS.n0
  have h4 := hS.n4
  have hd0 := hS.delay0
  have hd1 := hS.delay1
  have hb := lng_le c.sv.length h4
  have hB : BIG = 1152921504606846976 := rfl
  have he := (serve_eq c hS slot (traceId slot k) c.sv.length 0 (by omega) (by omega) m (by omega) 0 (1000 * slot + 7 * k) [] (by simp only [List.length_nil]; omega) (by omega) (by rw [hB]; omega)).1
  unfold traceV
  cases hsv : c.sv with
  | nil => rw [hsv] at h0; simp at h0
  | cons x r =>
    have hx : x.f0 = nm4 0 := by
      have := hS.name 0 (by omega)
      simpa [hsv] using this
    dsimp only
    rw [if_pos ⟨hs0, by omega, hk0, by omega, hd0, by omega⟩, hx, ← hsv]
    rw [show slot * 1048576 + 1 + k = traceId slot k from rfl, he]
    rfl
def slotTr (c : Cfg) (f : Sp → Sp) (s : Int) : List Tr := (List.range c.per.toNat).map fun (k : Nat) => ⟨traceId s k, (traceI c s k).map f⟩
def tracesI (c : Cfg) (f : Sp → Sp) : List Tr := (List.range (c.sto - c.sfrom).toNat).flatMap fun (i : Nat) => slotTr c f (c.sfrom + i)
theorem trK_eq (c : Cfg) (hS : Sys c) (f : Sp → Sp) (s : Int) (m : Nat) (hm : 110 ≤ m) (hs0 : 0 ≤ s) (hs1 : s ≤ 1000) (j : Nat) : ∀ (k : Nat) (acc : List Tr), k + j ≤ 1000 → acc.length + j ≤ 100000 →
    trK (traceV m c s) f j (k : Int) acc = some (acc ++ (List.range' k j).map fun (k : Nat) => ⟨traceId s k, (traceI c s k).map f⟩) := by
  induction j with
  | zero => intro k acc _ _; simp [trK]
  | succ j ih =>
    intro k acc hk ha
    simp only [trK]
    rw [if_pos (by omega), trace_eq c hS s k m hm hs0 hs1 (by omega) (by omega)]
    simp only [Option.bind_some]
    obtain ⟨a, r, e, ht⟩ := traceI_cons c hS s k
    have h := ih (k + 1) (acc ++ [⟨traceId s k, (traceI c s k).map f⟩]) (by omega) (by simp; omega)
    rw [e] at h ⊢
    dsimp only
    rw [ht, show (k : Int) + 1 = ((k + 1 : Nat) : Int) from rfl, h, List.range'_succ]
    simp [e]
theorem trS_eq (c : Cfg) (hS : Sys c) (f : Sp → Sp) (m : Nat) (hm : 110 ≤ m) (hp : c.per.toNat ≤ 1000) (j : Nat) : ∀ (i : Nat) (s : Int) (acc : List Tr), 0 ≤ s → s + j ≤ 1000 → acc.length + j * c.per.toNat ≤ 100000 →
    trS m c f j s acc = some (acc ++ (List.range j).flatMap fun (i : Nat) => slotTr c f (s + i)) := by
  induction j with
  | zero => intro i s acc _ _ _; simp [trS]
  | succ j ih =>
    intro i s acc h0 h1 ha
    have hm1 : (j + 1) * c.per.toNat = j * c.per.toNat + c.per.toNat := Nat.succ_mul _ _
    simp only [trS]
    have hk := trK_eq c hS f s m hm h0 (by omega) c.per.toNat 0 acc (by omega) (by omega)
    rw [show ((0 : Nat) : Int) = 0 from rfl] at hk
    rw [hk]
    simp only [Option.bind_some]
    rw [ih i (s + 1) _ (by omega) (by omega) (by simp; omega), ← List.range_eq_range']
    rw [List.range_succ_eq_map, List.flatMap_cons, List.flatMap_map]
    rw [List.append_assoc]
    have e : (fun i : Nat => slotTr c f (s + 1 + i)) = fun a : Nat => slotTr c f (s + (Nat.succ a : Nat)) := by
      funext a
      rw [show s + 1 + (a : Int) = s + ((Nat.succ a : Nat) : Int) from by omega]
    rw [e]
    simp [slotTr]
theorem traces_eq (c : Cfg) (hS : Sys c) (f : Sp → Sp) (h0 : 0 ≤ c.sfrom) (h1 : c.sto ≤ 100) (hp : c.per ≤ 10) (m : Nat) (hm : 110 ≤ m) : tracesV m c f = some (tracesI c f) := by
  unfold tracesV
  rw [if_pos ⟨h0, by omega, by omega⟩]
  have hb : (c.sto - c.sfrom).toNat * c.per.toNat ≤ 100 * 10 := Nat.mul_le_mul (by omega) (by omega)
  by_cases hs : c.sfrom ≤ c.sto
  · have := trS_eq c hS f m hm (by omega) (c.sto - c.sfrom).toNat 0 c.sfrom [] h0 (by omega) (by simp only [List.length_nil]; omega)
    rw [this]; rfl
  · have : (c.sto - c.sfrom).toNat = 0 := by omega
    unfold tracesI
    rw [this]; rfl
theorem plan_traces (p : Plan) (hok : PlanOk p) (f : Sp → Sp) (m : Nat) (hm : 110 ≤ m) : tracesV m (p.cfg chgs47) f = some (tracesI (p.cfg chgs47) f) := by
  refine traces_eq _ (plan_sys p hok) f ?_ ?_ ?_ m hm <;> simp only [Plan.cfg] <;> omega
theorem tracesI_mem (c : Cfg) (f : Sp → Sp) (x : Tr) (h : x ∈ tracesI c f) : ∃ s k : Int, c.sfrom ≤ s ∧ s < c.sto ∧ 0 ≤ k ∧ k < c.per ∧ x = ⟨traceId s k, (traceI c s k).map f⟩ := by
  unfold tracesI at h
  obtain ⟨i, hi, hx⟩ := List.mem_flatMap.mp h
  unfold slotTr at hx
  obtain ⟨k, hk, rfl⟩ := List.mem_map.mp hx
  have := List.mem_range.mp hi
  have := List.mem_range.mp hk
  exact ⟨c.sfrom + i, k, by omega, by omega, by omega, by omega, rfl⟩
end Go.Proofs.Ytdadnapfecmmdaa.P
namespace Go.Proofs.Ytdadnapfecmmdaa.P
set_option linter.unusedVariables false
set_option linter.unusedSimpArgs false
open Go.RowKit Go.Proofs.YtdadnapfecmmdaaW.PrintWords Go.Proofs.YtdadnapfecmmdaaW.PrintLast Go.Proofs.YtdadnapfecmmdaaW.PrintMore
def toS (s : Sp) : S56 := ⟨s.tr, s.id, s.par, s.rev, s.clk, s.kind, s.svc, s.ver, s.op, s.st, s.en, s.err, [], []⟩
def toT (x : Tr) : S51 := ⟨x.id, 1, x.l.map toS⟩
theorem spc_at (l : List Sp) (j : Nat) (hj : j < l.length) : ((spc l).drop (j * 14)).take 14 = l[j].cells := by
  apply List.ext_getElem?
  intro i
  rw [List.getElem?_take]
  split
  · rename_i h
    rw [List.getElem?_drop, spc_get l j i hj h]
  · rename_i h
    rw [List.getElem?_eq_none (by rw [Sp.cells_len]; omega)]
theorem spc_reps (w : World) (l : List Sp) : Reps (k56.K w) 14 (l.map toS) (spc l) := by
  refine ⟨by rw [spc_len, List.length_map], fun j p hj => ?_⟩
  rw [List.getElem?_map] at hj
  obtain ⟨s, hs, rfl⟩ := Option.map_eq_some_iff.mp hj
  obtain ⟨hl, rfl⟩ := List.getElem?_eq_some_iff.mp hs
  rw [spc_at l j hl]
  exact k56_mk w (toS l[j]) (A12 := none) (c12 := 0) (Nat.le_refl _) ⟨rfl, by simp [toS], fun h => absurd h (by simp [toS])⟩ (A13 := none) (c13 := 0) (Nat.le_refl _) ⟨rfl, by simp [toS], fun h => absurd h (by simp [toS])⟩
theorem own_le {w : World} {b : Nat} {e : TypeId} {sz n m : Nat} {A : Option Addr} {c : Nat} {xs : List Value} (h : w.ownsRow b e sz (.slice A n c) m xs) : n ≤ c := by
  rcases h.2 with ⟨h, _⟩ | ⟨g, cap, cur, h1, _, _, h4, _⟩
  · injection h; omega
  · injection h1; omega
theorem spc_reads {w : World} {b : Nat} {v : Value} {l : List Sp} (h : w.ownsRow b 56 14 v l.length (spc l)) : ∃ A c, v = .slice A (l.map toS).length c ∧ (l.map toS).length ≤ c ∧ Kd.C k56 w A (l.map toS).length (l.map toS) := by
  obtain ⟨A, c, rfl, hr⟩ := own_reads_row h (spc_reps w l) (by simp)
  rw [List.length_map]
  exact ⟨A, c, rfl, own_le h, hr⟩
theorem trc_at (xs : List (Tr × Value)) : ∀ j, (hj : j < xs.length) → ((trc xs).drop (j * 3)).take 3 = [.int .i64 xs[j].1.id, .int .i64 1, xs[j].2] := by
  induction xs with
  | nil => intro j hj; simp at hj
  | cons x r ih =>
    intro j hj
    match j with
    | 0 => simp [trc]
    | j + 1 =>
      simp only [trc, List.getElem_cons_succ]
      rw [show (j + 1) * 3 = j * 3 + 3 from by omega]
      have := ih j (by simpa using hj)
      simpa using this
theorem trc_len (xs : List (Tr × Value)) : (trc xs).length = xs.length * 3 := by
  induction xs with
  | nil => rfl
  | cons x r ih => simp only [trc, List.length_append, List.length_cons, List.length_nil, ih]; omega
theorem trc_reps {w : World} {b : Nat} {xs : List (Tr × Value)} (h : TsR w b xs) : Reps (k51.K w) 3 (xs.map fun x => toT x.1) (trc xs) := by
  refine ⟨by rw [trc_len, List.length_map], fun j p hj => ?_⟩
  rw [List.getElem?_map] at hj
  obtain ⟨x, hs, rfl⟩ := Option.map_eq_some_iff.mp hj
  obtain ⟨hl, rfl⟩ := List.getElem?_eq_some_iff.mp hs
  rw [trc_at xs j hl]
  obtain ⟨A, c, e, hc, hr⟩ := spc_reads (h xs[j] (List.getElem_mem hl))
  rw [e]
  exact k51_mk w (toT xs[j].1) hc hr
theorem TsOut.reads {w : World} {b : Nat} {ts : List Tr} {v : Value} (h : TsOut b w ts v) : ∃ A c, v = .slice A (ts.map toT).length c ∧ (ts.map toT).length ≤ c ∧ Kd.C k51 w A (ts.map toT).length (ts.map toT) := by
  obtain ⟨xs, rfl, ho, hr⟩ := h
  obtain ⟨A, c, rfl, hc⟩ := own_reads_row ho (trc_reps hr) (by simp)
  have e : (xs.map (·.1)).map toT = xs.map fun x => toT x.1 := by simp
  rw [e, List.length_map]
  exact ⟨A, c, rfl, own_le ho, hc⟩
end Go.Proofs.Ytdadnapfecmmdaa.P
namespace Go.Proofs.Ytdadnapfecmmdaa.P
set_option linter.unusedVariables false
set_option linter.unusedSimpArgs false
open Go.RowKit Go.Proofs.YtdadnapfecmmdaaW.PrintWords Go.Proofs.YtdadnapfecmmdaaW.PrintLast Go.Proofs.YtdadnapfecmmdaaW.PrintMore
open Go.Proofs.Ytdadnapfecmmdaa.Hm
theorem calls_all (Q : Sp → Prop) (seed delay t i : Int) (x : S64) (ver : ByteArray) (rec : ByteArray → Int → Int → Nat → Res) (hrec : ∀ nm parent y len, ∀ s ∈ (rec nm parent y len).2.2, Q s)
    (hq : ∀ id y z e, Q ⟨t, id, i, 0, x.f1, 2, x.f0, ver, strCall, y, z, e⟩) (cl : List ByteArray) : ∀ y fl len, ∀ s ∈ (callsI seed delay t i x ver rec cl y fl len).2.2, Q s := by
  induction cl with
  | nil => intro y fl len s hs; simp [callsI] at hs
  | cons nm r ih =>
    intro y fl len s hs
    simp only [callsI] at hs
    rcases List.mem_cons.mp hs with h | h
    · rw [h]; exact hq _ _ _ _
    · rcases List.mem_append.mp h with h | h
      · exact hrec _ _ _ _ s h
      · exact ih _ _ _ s h
def verOk (c : Cfg) (slot t : Int) (s : Sp) : Prop := s.tr = t ∧ s.ver = (actV c.ch s.svc slot).2.2.2.2.2.1
theorem serve_ver (c : Cfg) (slot t : Int) (d : Nat) : ∀ nm parent x len, ∀ s ∈ (serveI c slot t d nm parent x len).2.2, verOk c slot t s := by
  induction d with
  | zero => intro nm parent x len s hs; simp [serveI] at hs
  | succ d ih =>
    intro nm parent x len s hs
    simp only [serveI] at hs
    rcases List.mem_cons.mp hs with h | h
    · rw [h]; exact ⟨rfl, rfl⟩
    · exact calls_all (verOk c slot t) _ _ _ _ _ _ _ ih (fun _ _ _ _ => ⟨rfl, rfl⟩) _ _ _ _ s h
def SpanVer (ch : List S100) (s : S56) : Prop :=
  (actV ch s.f6 (s.f0 / 1048576)).2.2.2.2.2.1 = s.f7 ∧ (((actV ch s.f6 (s.f0 / 1048576)).1 = 0 ∧ s.f7 = ⟨#[]⟩) ∨ (1 ≤ (actV ch s.f6 (s.f0 / 1048576)).1 ∧ (s.f7 = ⟨#[118, 49]⟩ ∨ s.f7 = ⟨#[118, 50]⟩ ∨ s.f7 = ⟨#[118, 51]⟩)))
theorem chgs_kind (l : List S93) (y : S100) (hy : y ∈ chgs47 l) (h1 : y.f1 = 1) : 1 ≤ y.f0 ∧ (y.f5 = ⟨#[118, 49]⟩ ∨ y.f5 = ⟨#[118, 50]⟩ ∨ y.f5 = ⟨#[118, 51]⟩) := by
  obtain ⟨⟨_, x, id, e⟩, h2, _⟩ := (mkChgs_inv l).2 y hy
  refine ⟨h2, ?_⟩
  subst e
  unfold chgOf at h1 ⊢
  split
  · dsimp only
    generalize (x.f4 % 3).toNat = q
    match q with
    | 0 => exact .inl rfl
    | 1 => exact .inr (.inl rfl)
    | _ + 2 => exact .inr (.inr rfl)
  · rename_i h
    rw [if_neg h] at h1
    dsimp only at h1
    omega
theorem traceI_ver (p : Plan) (slot k : Int) (hk0 : 0 ≤ k) (hk1 : k ≤ 1000) (s : Sp) (hs : s ∈ traceI (p.cfg chgs47) slot k) : s.tr / 1048576 = slot ∧ s.ver = (actV (p.cfg chgs47).ch s.svc slot).2.2.2.2.2.1 := by
  obtain ⟨h1, h2⟩ := serve_ver _ slot (traceId slot k) _ _ _ _ _ s hs
  refine ⟨?_, h2⟩
  rw [h1]
  unfold traceId
  omega
theorem traces_ver (p : Plan) (f : Sp → Sp) (hf : ∀ s, (f s).tr = s.tr ∧ (f s).svc = s.svc ∧ (f s).ver = s.ver) (x : Tr) (hx : x ∈ tracesI (p.cfg chgs47) f) (s : S56) (hs : s ∈ x.l.map toS) : SpanVer (p.cfg chgs47).ch s := by
  obtain ⟨slot, k, h1, h2, h3, h4, rfl⟩ := tracesI_mem _ _ _ hx
  obtain ⟨y, hy, rfl⟩ := List.mem_map.mp hs
  dsimp only at hy
  obtain ⟨z, hz, rfl⟩ := List.mem_map.mp hy
  obtain ⟨g1, g2, g3⟩ := hf z
  have hper : (p.cfg chgs47).per ≤ 2 := by simp only [Plan.cfg]; omega
  obtain ⟨e1, e2⟩ := traceI_ver p slot k h3 (by omega) z hz
  unfold SpanVer toS
  dsimp only
  rw [g1, g2, g3, e1, e2]
  refine ⟨rfl, ?_⟩
  have hch : (p.cfg chgs47).ch = chgs47 p.sts := rfl
  rcases (act_ok (p.cfg chgs47).ch (by rw [hch]; have := chgs_len p.sts; omega) z.svc slot).2 with h | ⟨y, hy, h, h5⟩
  · rw [h]; exact .inl ⟨rfl, rfl⟩
  · rw [h]
    rw [hch] at hy
    obtain ⟨q1, q2⟩ := chgs_kind _ y hy h5
    exact .inr ⟨q1, q2⟩
theorem shift_keeps (off : List S91) (s : Sp) : (shiftSp off s).tr = s.tr ∧ (shiftSp off s).svc = s.svc ∧ (shiftSp off s).ver = s.ver := ⟨rfl, rfl, rfl⟩
theorem traceI_len (c : Cfg) (hS : Sys c) (slot k : Int) (hs0 : 0 ≤ slot) (hs1 : slot ≤ 1000) (hk0 : 0 ≤ k) (hk1 : k ≤ 1000) : (traceI c slot k).length ≤ 160 := by
  have hb := lng_le c.sv.length hS.n4
  have h0 := hS.n0
  have hB : BIG = 1152921504606846976 := rfl
  have he := (serve_eq c hS slot (traceId slot k) c.sv.length 0 (by omega) (by omega) 200 (by have := hS.n4; omega) 0 (1000 * slot + 7 * k) [] (by simp only [List.length_nil]; omega) (by omega) (by rw [hB]; omega)).2.2.2
  unfold traceI
  simp only [List.length_nil] at he
  omega
theorem traces_len (p : Plan) (hok : PlanOk p) (f : Sp → Sp) (x : Tr) (hx : x ∈ tracesI (p.cfg chgs47) f) : (x.l.map toS).length ≤ 160 := by
  obtain ⟨slot, k, h1, h2, h3, h4, rfl⟩ := tracesI_mem _ _ _ hx
  have a1 : (p.cfg chgs47).sfrom = p.first % 8 := rfl
  have a2 : (p.cfg chgs47).sto = p.first % 8 + p.slots % 4 := rfl
  have a3 : (p.cfg chgs47).per = p.per % 3 := rfl
  have := traceI_len (p.cfg chgs47) (plan_sys p hok) slot k (by omega) (by omega) (by omega) (by omega)
  simpa using this
end Go.Proofs.Ytdadnapfecmmdaa.P
namespace Go.Proofs.Ytdadnapfecmmdaa.P
set_option linter.unusedVariables false
set_option linter.unusedSimpArgs false
open Go.RowKit Go.Proofs.YtdadnapfecmmdaaW.PrintWords Go.Proofs.YtdadnapfecmmdaaW.PrintLast Go.Proofs.YtdadnapfecmmdaaW.PrintMore
open Go.Proofs.Ytdadnapfecmmdaa.Hm
def verT.T8 : Bool × List (List Nat × List Nat) := (true, [([], []), ([0], [0]), ([], []), ([], []), ([2, 3], [2, 3]), ([4], [4]), ([5], [5]), ([1, 6], [1, 6]), ([7, 7, 0, 1, 2, 3, 4, 5, 6, 7], [7])])
def verT.B8 : List Nat := [0, 1, 0, 0, 12, 28, 60, 127, 255]
theorem verT.tab8 : rtab .any (opsOf Try.f4 8) = verT.T8 := by kernel_rfl
theorem verT.bits8 : waitsOk verT.T8.2 verT.B8 = true := by kernel_rfl
def verT.T9 : Bool × List (List Nat × List Nat) := (true, [([], []), ([0], [0]), ([], []), ([], []), ([2, 3], [2, 3]), ([4], [4]), ([5], [5]), ([1, 6], [1, 6]), ([7], [7]), ([8], [8]), ([9, 7], [9]), ([10], [10]), ([11, 10], [10, 11]), ([10], [10]), ([10], [10]), ([13, 14, 10], [10, 13, 14]), ([15, 10], [10, 15]), ([16, 10], [10, 16]), ([17, 10], [10, 17]), ([12, 18, 10], [10, 12, 18]), ([10, 19], [10, 19])])
def verT.B9 : List Nat := [0, 1, 0, 0, 12, 28, 60, 127, 255, 511, 1023, 2047, 4095, 2047, 2047, 26623, 59391, 124927, 255999, 524287, 1048575]
theorem verT.tab9 : rtab .any (opsOf Try.f4 9) = verT.T9 := by kernel_rfl
theorem verT.bits9 : waitsOk verT.T9.2 verT.B9 = true := by kernel_rfl
def verT.T14 : Bool × List (List Nat × List Nat) := (true, [([], []), ([], []), ([0, 1], [0, 1]), ([2], [2]), ([3], [3]), ([], []), ([], []), ([5, 6], [5, 6]), ([7], [7]), ([8], [8]), ([], []), ([9, 10], [9, 10]), ([11], [11]), ([12], [12]), ([13], [13]), ([4, 14], [4, 14])])
def verT.B14 : List Nat := [0, 0, 3, 7, 15, 0, 0, 96, 224, 480, 0, 2016, 4064, 8160, 16352, 32767]
theorem verT.tab14 : rtab .any (opsOf Try.f4 14) = verT.T14 := by kernel_rfl
theorem verT.bits14 : waitsOk verT.T14.2 verT.B14 = true := by kernel_rfl
set_option maxHeartbeats 8000000 in
set_option maxRecDepth 100000 in
theorem versions_calls (p : Plan) (a : PlanAt) (w : World) (hR : PlanR w a p) (hok : PlanOk p) :
    Calls Try.prog 4 #[.agg (p.cells a)] w fun e w' => e = .returned (.bool true) ∧ Below w.heap.size w w' := by
  have HCF := Aside0.mk (fun W (hb : Below w.heap.size w W) => config_calls p a W (hR.below hb) hok)
  have HCK := Aside0.mk (ckAll_ok (cfg_valid p hok) 2200)
  have HTV := Aside0.mk (plan_traces p hok (shiftSp (p.cfg chgs47).off) 110 (Nat.le_refl _))
  have hch : (p.cfg chgs47).ch.length ≤ 40 := by have := chgs_len p.sts; show (chgs47 p.sts).length ≤ 40; omega
  have HSV := Aside0.mk (fun x hx => And.intro (traces_ver p (shiftSp (p.cfg chgs47).off) (shift_keeps _) x hx) (traces_len p hok (shiftSp (p.cfg chgs47).off) x hx))
  generalize tracesI (p.cfg chgs47) (shiftSp (p.cfg chgs47).off) = ts at HTV HSV
  generalize p.cfg chgs47 = c at HCF HCK HTV HSV hch
  clear hR hok
  go_enter Try.func4, Try.ntmps4
  go_wp2_with fail
  refine (HCF.out _ (below_alloc (Below.refl _ _) _)).mono ?_
  rintro e w1 ⟨⟨A1, c1, A2, c2, A3, c3, A4, c4⟩, rfl, hR1, hb1⟩
  have HR1 := Aside0.mk hR1
  have HB1 := Aside0.mk (below_step (below_alloc (Below.refl w.heap.size w) _) hb1)
  clear hR1 hb1 HCF
  go_upto_region 2 with fail
  have hbx := blk_new w1 (.cells (c.cells ⟨A1, c1, A2, c2, A3, c3, A4, c4⟩) 31)
  have hbb : Below w1.heap.size w1 (w1.alloc (.cells (c.cells ⟨A1, c1, A2, c2, A3, c3, A4, c4⟩) 31)) := below_alloc (Below.refl _ _) _
  go_wp2_with fail
  refine (Traces_ok 110 2200 c ⟨A1, c1, A2, c2, A3, c3, A4, c4⟩ _ ts (HR1.out.below hbb) HCK.out HTV.out).mono ?_
  rintro e w2 ⟨v, rfl, ht, hb2⟩
  obtain ⟨AT, cT, rfl, hcT, hCT⟩ := ht.reads
  have hll : (ts.map toT).length = ts.length := List.length_map ..
  rw [hll] at hcT hCT
  rw [hll]
  have HBX := Aside0.mk (blk_below hbx hb2)
  have HB2 := Aside0.mk (below_step (below_step HB1.out hbb) hb2)
  have HR2 := Aside0.mk (HR1.out.below (below_step hbb hb2))
  have HCT := Aside0.mk hCT
  clear ht hb2 hbb hbx hCT HB1 HR1 HCK HTV
  go_wp2_with fail
  refine (known_calls _).mono ?_
  rintro e w3 ⟨rfl, hb3⟩
  have HBX3 := Aside0.mk (blk_below HBX.out hb3)
  have HB3 := Aside0.mk (below_step HB2.out hb3)
  have HC3 := Aside0.mk (HR2.out.below hb3).r3
  have hl3 : c.ch.length ≤ c3 := HR2.out.l3
  have HT3 := Aside0.mk (Kd.C_below HCT.out hb3)
  have hlT : ts.length ≤ 9223372036854775807 := HCT.out.2.1
  have HJ := Aside0.mk (fun W A n l (hb : Below w3.heap.size w3 W) h1 h2 => Join_calls A3 c3 c.ch A n l W (Kd.C_below HC3.out hb) hl3 hch h1 h2)
  have HST := Aside0.mk (fun W A n l (hb : Below w3.heap.size w3 W) h1 h2 h3 => Strangers_calls A3 c3 c.ch A n l W (Kd.C_below HC3.out hb) hl3 hch h1 h2 h3)
  replace HSV : Aside0 (∀ x ∈ ts.map toT, (∀ s ∈ x.f2, SpanVer c.ch s) ∧ x.f2.length ≤ 160) := ⟨fun x hx => by
    obtain ⟨y, hy, rfl⟩ := List.mem_map.mp hx
    exact HSV.out y hy⟩
  clear HBX HB2 HR2 HCT hb3 HC3 hl3 hch
  generalize ts.map toT = l at HSV HT3 hll
  generalize ts.length = n at HT3 hlT hll ⊢
  go_wp2_with fail
  go_loopg [6, 7, 8] n (fun gg s6 s7 s8 wr => ∃ i : Nat, i ≤ n ∧ n - i ≤ gg ∧ s6 = .int .i64 (i : Int) ∧ Aside0 (Below w3.heap.size w3 wr))
  case atStart => exact ⟨0, Nat.zero_le _, by omega, rfl, ⟨Below.refl _ _⟩⟩
  case round =>
  obtain ⟨i, hi, hgi, rfl, HB⟩ := hrel
  by_cases hlt : i < n
  · obtain ⟨ad, A2', k2, e, t0, t1, t2, hk2, hC2⟩ := at_T51 HT3.out (i : Int) (by omega) (by omega)
    subst e
    simp only [Int.toNat_natCast] at t0 t1 t2
    have hm : rd_T51 l (i : Int) ∈ l := by unfold rd_T51; rw [Int.toNat_natCast, List.getD_eq_getElem?_getD, List.getElem?_eq_getElem (by omega)]; exact List.getElem_mem _
    have hsv := HSV.out _ hm
    clear hm t0 t1
    generalize rd_T51 l (i : Int) = x at t2 hk2 hC2 hsv
    obtain ⟨x0, x1, x2⟩ := x
    dsimp only at t2 hk2 hC2 hsv
    have HSX := Aside0.mk hsv.1
    have hn2 : x2.length ≤ 1000 := Nat.le_trans hsv.2 (by omega)
    have HC2 := Aside0.mk hC2
    clear hsv hC2
    replace HJ := Aside0.mk (fun W (hb : Below w3.heap.size w3 W) => HJ.out W A2' k2 x2 hb (Kd.C_below HC2.out hb) hn2)
    replace HST := Aside0.mk (fun W (hb : Below w3.heap.size w3 W) => HST.out W A2' k2 x2 hb (Kd.C_below HC2.out hb) hn2 (fun s hs => (HSX.out s hs).1))
    replace t2 := (HB.out.cell (World.block_lt_of_cell? _ _ t2)).trans t2
    have b3 : wr.cell? ⟨w1.heap.size, 3, none⟩ = some (.slice A3 c.ch.length c3) := (blk_cell (blk_below HBX3.out HB.out) 3).trans rfl
    have hz1 : (i : Int) < (n : Int) := by omega
    clear HT3 HSV HBX3
    go_upto_region 8 with fail
    refine start_ (n := 9) (S := fun w' => Below wr.heap.size wr w') (ds := []) #[false, false, false, false, false, false, false, false, false] (by kernel_rfl) rfl rfl (Below.refl _ _).drew (fun hHeld => ?_)
    refine with_tabW verT.tab8 verT.bits8 (fun HT_ HW_ => ?_)
    generalize wr.drew = wd at hHeld ⊢
    refine pure_ (i := 0) (N := some 28) (v := ?_) (a' := ?_) #[true, false, false, false, false, false, false, false, false] rfl rfl (any_of HT_.out (by kernel_rfl)) (fun _ _ _ h => h) (Or.inl ⟨by rfl, ?_⟩) ?_ ?_
    rotate_left
    · intro w'
      go_simp
      with_reducible rfl
    rotate_left
    · simp only [Act.put, List.setIfInBounds_toArray, List.set_cons_zero, List.set_cons_succ, i64_w, i32_w]
      rfl
    refine take_ (i := 1) (N := some 29) (v := ?_) (a' := ?_) #[true, true, false, false, false, false, false, false, false] rfl rfl (take_ofW HT_.out HW_.out (by kernel_rfl)) (fun _ _ _ h => h) (Or.inl ⟨by rfl, ?_⟩) hHeld ?_ ?_
    rotate_left
    · intro w' hS
      replace b3 := (hS.cell (World.block_lt_of_cell? _ _ b3)).trans b3
      go_simp
      with_reducible rfl
    rotate_left
    · simp only [Act.put, List.setIfInBounds_toArray, List.set_cons_zero, List.set_cons_succ, i64_w, i32_w]
      rfl
    refine pure_ (i := 2) (N := some 30) (v := ?_) (a' := ?_) #[true, true, true, false, false, false, false, false, false] rfl rfl (any_of HT_.out (by kernel_rfl)) (fun _ _ _ h => h) (Or.inl ⟨by rfl, ?_⟩) ?_ ?_
    rotate_left
    · intro w'
      go_simp
      with_reducible rfl
    rotate_left
    · simp only [Act.put, List.setIfInBounds_toArray, List.set_cons_zero, List.set_cons_succ, i64_w, i32_w]
      rfl
    refine pure_ (i := 3) (N := some 31) (v := ?_) (a' := ?_) #[true, true, true, true, false, false, false, false, false] rfl rfl (any_of HT_.out (by kernel_rfl)) (fun _ _ _ h => h) (Or.inl ⟨by rfl, ?_⟩) ?_ ?_
    rotate_left
    · intro w'
      go_simp
      with_reducible rfl
    rotate_left
    · simp only [Act.put, List.setIfInBounds_toArray, List.set_cons_zero, List.set_cons_succ, i64_w, i32_w]
      rfl
    refine pure_ (i := 4) (N := some 32) (v := ?_) (a' := ?_) #[true, true, true, true, true, false, false, false, false] rfl rfl (any_of HT_.out (by kernel_rfl)) (fun _ _ _ h => h) (Or.inl ⟨by rfl, ?_⟩) ?_ ?_
    rotate_left
    · intro w'
      go_simp
      with_reducible rfl
    rotate_left
    · simp only [Act.put, List.setIfInBounds_toArray, List.set_cons_zero, List.set_cons_succ, i64_w, i32_w]
      rfl
    refine pure_ (i := 5) (N := some 33) (v := ?_) (a' := ?_) #[true, true, true, true, true, true, false, false, false] rfl rfl (any_of HT_.out (by kernel_rfl)) (fun _ _ _ h => h) (Or.inl ⟨by rfl, ?_⟩) ?_ ?_
    rotate_left
    · intro w'
      go_simp
      with_reducible rfl
    rotate_left
    · simp only [Act.put, List.setIfInBounds_toArray, List.set_cons_zero, List.set_cons_succ, i64_w, i32_w]
      rfl
    refine take_ (i := 6) (N := some 34) (v := ?_) (a' := ?_) #[true, true, true, true, true, true, true, false, false] rfl rfl (take_ofW HT_.out HW_.out (by kernel_rfl)) (fun _ _ _ h => h) (Or.inl ⟨by rfl, ?_⟩) hHeld ?_ ?_
    rotate_left
    · intro w' hS
      replace t2 := (hS.cell (World.block_lt_of_cell? _ _ t2)).trans t2
      go_simp
      with_reducible rfl
    rotate_left
    · simp only [Act.put, List.setIfInBounds_toArray, List.set_cons_zero, List.set_cons_succ, i64_w, i32_w]
      rfl
    refine one_ (i := 7) (N := some 35) #[true, true, true, true, true, true, true, true, false] rfl rfl (one_of HT_.out (by kernel_rfl)) (by decide) (fun K hK => ?_)
    refine goes_ Try.func14 (by kernel_rfl) rfl #[.slice A3 c.ch.length c3, .slice A2' x2.length k2] (by rfl) rfl rfl (by (try simp only [List.map_toArray, List.map_cons, List.map_nil]); first | done | rfl) ?_
    with_reducible refine (HJ.out _ (below_step HB.out hHeld)).mono ?_
    rintro e w7 ⟨v, rfl, hr, hb⟩
    refine ⟨_, rfl, ?_⟩
    obtain ⟨A7, c7, e7⟩ := Kd.R_slice hr
    subst e7
    rw [List.length_map]
    have HR7 := Aside0.mk hr
    clear hr
    replace hHeld := below_step hHeld hb
    clear hb
    refine hK.out _ _ hHeld (fun hHeld => ?_)
    clear hK K
    refine norm_ (a' := ?_) ?_ ?_
    rotate_left
    · show Act.put _ (some 35) _ = _
      simp only [Act.put, List.setIfInBounds_toArray, List.set_cons_zero, List.set_cons_succ, i64_w, i32_w]
      rfl
    refine pure_ (i := 8) (N := some 7) (v := ?_) (a' := ?_) #[true, true, true, true, true, true, true, true, true] rfl rfl (any_of HT_.out (by kernel_rfl)) (fun _ _ _ h => h) (Or.inl ⟨by rfl, ?_⟩) ?_ ?_
    rotate_left
    · intro w'
      go_simp
      with_reducible rfl
    rotate_left
    · simp only [Act.put, List.setIfInBounds_toArray, List.set_cons_zero, List.set_cons_succ, i64_w, i32_w]
      rfl
    refine done_ (done_of HT_.out (by kernel_rfl)) ?_
    have HB7 := Aside0.mk (below_step HB.out hHeld)
    replace b3 := (hHeld.cell (World.block_lt_of_cell? _ _ b3)).trans b3
    replace t2 := (hHeld.cell (World.block_lt_of_cell? _ _ t2)).trans t2
    clear hHeld HB HJ
    go_upto_region 9 with fail
    refine start_ (n := 21) (S := fun w' => Below w7.heap.size w7 w') (ds := []) #[false, false, false, false, false, false, false, false, false, false, false, false, false, false, false, false, false, false, false, false, false] (by kernel_rfl) rfl rfl (Below.refl _ _).drew (fun hHeld => ?_)
    refine with_tabW verT.tab9 verT.bits9 (fun HT_ HW_ => ?_)
    generalize w7.drew = wd at hHeld ⊢
    refine pure_ (i := 0) (N := some 36) (v := ?_) (a' := ?_) #[true, false, false, false, false, false, false, false, false, false, false, false, false, false, false, false, false, false, false, false, false] rfl rfl (any_of HT_.out (by kernel_rfl)) (fun _ _ _ h => h) (Or.inl ⟨by rfl, ?_⟩) ?_ ?_
    rotate_left
    · intro w'
      go_simp
      with_reducible rfl
    rotate_left
    · simp only [Act.put, List.setIfInBounds_toArray, List.set_cons_zero, List.set_cons_succ, i64_w, i32_w]
      rfl
    refine take_ (i := 1) (N := some 37) (v := ?_) (a' := ?_) #[true, true, false, false, false, false, false, false, false, false, false, false, false, false, false, false, false, false, false, false, false] rfl rfl (take_ofW HT_.out HW_.out (by kernel_rfl)) (fun _ _ _ h => h) (Or.inl ⟨by rfl, ?_⟩) hHeld ?_ ?_
    rotate_left
    · intro w' hS
      replace b3 := (hS.cell (World.block_lt_of_cell? _ _ b3)).trans b3
      go_simp
      with_reducible rfl
    rotate_left
    · simp only [Act.put, List.setIfInBounds_toArray, List.set_cons_zero, List.set_cons_succ, i64_w, i32_w]
      rfl
    refine pure_ (i := 2) (N := some 38) (v := ?_) (a' := ?_) #[true, true, true, false, false, false, false, false, false, false, false, false, false, false, false, false, false, false, false, false, false] rfl rfl (any_of HT_.out (by kernel_rfl)) (fun _ _ _ h => h) (Or.inl ⟨by rfl, ?_⟩) ?_ ?_
    rotate_left
    · intro w'
      go_simp
      with_reducible rfl
    rotate_left
    · simp only [Act.put, List.setIfInBounds_toArray, List.set_cons_zero, List.set_cons_succ, i64_w, i32_w]
      rfl
    refine pure_ (i := 3) (N := some 39) (v := ?_) (a' := ?_) #[true, true, true, true, false, false, false, false, false, false, false, false, false, false, false, false, false, false, false, false, false] rfl rfl (any_of HT_.out (by kernel_rfl)) (fun _ _ _ h => h) (Or.inl ⟨by rfl, ?_⟩) ?_ ?_
    rotate_left
    · intro w'
      go_simp
      with_reducible rfl
    rotate_left
    · simp only [Act.put, List.setIfInBounds_toArray, List.set_cons_zero, List.set_cons_succ, i64_w, i32_w]
      rfl
    refine pure_ (i := 4) (N := some 40) (v := ?_) (a' := ?_) #[true, true, true, true, true, false, false, false, false, false, false, false, false, false, false, false, false, false, false, false, false] rfl rfl (any_of HT_.out (by kernel_rfl)) (fun _ _ _ h => h) (Or.inl ⟨by rfl, ?_⟩) ?_ ?_
    rotate_left
    · intro w'
      go_simp
      with_reducible rfl
    rotate_left
    · simp only [Act.put, List.setIfInBounds_toArray, List.set_cons_zero, List.set_cons_succ, i64_w, i32_w]
      rfl
    refine pure_ (i := 5) (N := some 41) (v := ?_) (a' := ?_) #[true, true, true, true, true, true, false, false, false, false, false, false, false, false, false, false, false, false, false, false, false] rfl rfl (any_of HT_.out (by kernel_rfl)) (fun _ _ _ h => h) (Or.inl ⟨by rfl, ?_⟩) ?_ ?_
    rotate_left
    · intro w'
      go_simp
      with_reducible rfl
    rotate_left
    · simp only [Act.put, List.setIfInBounds_toArray, List.set_cons_zero, List.set_cons_succ, i64_w, i32_w]
      rfl
    refine take_ (i := 6) (N := some 42) (v := ?_) (a' := ?_) #[true, true, true, true, true, true, true, false, false, false, false, false, false, false, false, false, false, false, false, false, false] rfl rfl (take_ofW HT_.out HW_.out (by kernel_rfl)) (fun _ _ _ h => h) (Or.inl ⟨by rfl, ?_⟩) hHeld ?_ ?_
    rotate_left
    · intro w' hS
      replace t2 := (hS.cell (World.block_lt_of_cell? _ _ t2)).trans t2
      go_simp
      with_reducible rfl
    rotate_left
    · simp only [Act.put, List.setIfInBounds_toArray, List.set_cons_zero, List.set_cons_succ, i64_w, i32_w]
      rfl
    refine one_ (i := 7) (N := some 43) #[true, true, true, true, true, true, true, true, false, false, false, false, false, false, false, false, false, false, false, false, false] rfl rfl (one_of HT_.out (by kernel_rfl)) (by decide) (fun K hK => ?_)
    refine goes_ Try.func15 (by kernel_rfl) rfl #[.slice A3 c.ch.length c3, .slice A2' x2.length k2] (by rfl) rfl rfl (by (try simp only [List.map_toArray, List.map_cons, List.map_nil]); first | done | rfl) ?_
    with_reducible refine (HST.out _ (below_step HB7.out hHeld)).mono ?_
    rintro e w9 ⟨rfl, hb⟩
    refine ⟨_, rfl, ?_⟩
    replace hHeld := below_step hHeld hb
    clear hb
    refine hK.out _ _ hHeld (fun hHeld => ?_)
    clear hK K
    refine norm_ (a' := ?_) ?_ ?_
    rotate_left
    · show Act.put _ (some 43) _ = _
      simp only [Act.put, List.setIfInBounds_toArray, List.set_cons_zero, List.set_cons_succ, i64_w, i32_w]
      rfl
    refine pure_ (i := 8) (N := some 44) (v := ?_) (a' := ?_) #[true, true, true, true, true, true, true, true, true, false, false, false, false, false, false, false, false, false, false, false, false] rfl rfl (any_of HT_.out (by kernel_rfl)) (fun _ _ _ h => h) (Or.inl ⟨by rfl, ?_⟩) ?_ ?_
    rotate_left
    · intro w'
      go_simp
      with_reducible rfl
    rotate_left
    · simp only [Act.put, List.setIfInBounds_toArray, List.set_cons_zero, List.set_cons_succ, i64_w, i32_w]
      rfl
    refine pure_ (i := 9) (N := some 45) (v := ?_) (a' := ?_) #[true, true, true, true, true, true, true, true, true, true, false, false, false, false, false, false, false, false, false, false, false] rfl rfl (any_of HT_.out (by kernel_rfl)) (fun _ _ _ h => h) (Or.inl ⟨by rfl, ?_⟩) ?_ ?_
    rotate_left
    · intro w'
      go_simp
      with_reducible rfl
    rotate_left
    · simp only [Act.put, List.setIfInBounds_toArray, List.set_cons_zero, List.set_cons_succ, i64_w, i32_w]
      rfl
    refine pure_ (i := 10) (N := some 46) (v := ?_) (a' := ?_) #[true, true, true, true, true, true, true, true, true, true, true, false, false, false, false, false, false, false, false, false, false] rfl rfl (any_of HT_.out (by kernel_rfl)) (fun _ _ _ h => h) (Or.inl ⟨by rfl, ?_⟩) ?_ ?_
    rotate_left
    · intro w'
      go_simp
      with_reducible rfl
    rotate_left
    · simp only [Act.put, List.setIfInBounds_toArray, List.set_cons_zero, List.set_cons_succ, i64_w, i32_w]
      rfl
    refine pure_ (i := 11) (N := some 47) (v := ?_) (a' := ?_) #[true, true, true, true, true, true, true, true, true, true, true, true, false, false, false, false, false, false, false, false, false] rfl rfl (any_of HT_.out (by kernel_rfl)) (fun _ _ _ h => h) (Or.inl ⟨by rfl, ?_⟩) ?_ ?_
    rotate_left
    · intro w'
      go_simp
      with_reducible rfl
    rotate_left
    · simp only [Act.put, List.setIfInBounds_toArray, List.set_cons_zero, List.set_cons_succ, i64_w, i32_w]
      rfl
    refine pure_ (i := 12) (N := some 48) (v := ?_) (a' := ?_) #[true, true, true, true, true, true, true, true, true, true, true, true, true, false, false, false, false, false, false, false, false] rfl rfl (any_of HT_.out (by kernel_rfl)) (fun _ _ _ h => h) (Or.inl ⟨by rfl, ?_⟩) ?_ ?_
    rotate_left
    · intro w'
      go_simp
      with_reducible rfl
    rotate_left
    · simp only [Act.put, List.setIfInBounds_toArray, List.set_cons_zero, List.set_cons_succ, i64_w, i32_w]
      rfl
    refine pure_ (i := 13) (N := some 49) (v := ?_) (a' := ?_) #[true, true, true, true, true, true, true, true, true, true, true, true, true, true, false, false, false, false, false, false, false] rfl rfl (any_of HT_.out (by kernel_rfl)) (fun _ _ _ h => h) (Or.inl ⟨by rfl, ?_⟩) ?_ ?_
    rotate_left
    · intro w'
      go_simp
      with_reducible rfl
    rotate_left
    · simp only [Act.put, List.setIfInBounds_toArray, List.set_cons_zero, List.set_cons_succ, i64_w, i32_w]
      rfl
    refine pure_ (i := 14) (N := some 50) (v := ?_) (a' := ?_) #[true, true, true, true, true, true, true, true, true, true, true, true, true, true, true, false, false, false, false, false, false] rfl rfl (any_of HT_.out (by kernel_rfl)) (fun _ _ _ h => h) (Or.inl ⟨by rfl, ?_⟩) ?_ ?_
    rotate_left
    · intro w'
      go_simp
      with_reducible rfl
    rotate_left
    · simp only [Act.put, List.setIfInBounds_toArray, List.set_cons_zero, List.set_cons_succ, i64_w, i32_w]
      rfl
    refine pure_ (i := 15) (N := some 51) (v := ?_) (a' := ?_) #[true, true, true, true, true, true, true, true, true, true, true, true, true, true, true, true, false, false, false, false, false] rfl rfl (any_of HT_.out (by kernel_rfl)) (fun _ _ _ h => h) (Or.inl ⟨by rfl, ?_⟩) ?_ ?_
    rotate_left
    · intro w'
      go_simp
      with_reducible rfl
    rotate_left
    · simp only [Act.put, List.setIfInBounds_toArray, List.set_cons_zero, List.set_cons_succ, i64_w, i32_w]
      rfl
    refine pure_ (i := 16) (N := some 52) (v := ?_) (a' := ?_) #[true, true, true, true, true, true, true, true, true, true, true, true, true, true, true, true, true, false, false, false, false] rfl rfl (any_of HT_.out (by kernel_rfl)) (fun _ _ _ h => h) (Or.inl ⟨by rfl, ?_⟩) ?_ ?_
    rotate_left
    · intro w'
      go_simp
      with_reducible rfl
    rotate_left
    · simp only [Act.put, List.setIfInBounds_toArray, List.set_cons_zero, List.set_cons_succ, i64_w, i32_w]
      rfl
    refine take_ (i := 17) (N := some 53) (v := ?_) (a' := ?_) #[true, true, true, true, true, true, true, true, true, true, true, true, true, true, true, true, true, true, false, false, false] rfl rfl (take_ofW HT_.out HW_.out (by kernel_rfl)) (fun _ _ _ h => h) (Or.inl ⟨by rfl, ?_⟩) hHeld ?_ ?_
    rotate_left
    · intro w' hS
      replace t2 := (hS.cell (World.block_lt_of_cell? _ _ t2)).trans t2
      go_simp
      with_reducible rfl
    rotate_left
    · simp only [Act.put, List.setIfInBounds_toArray, List.set_cons_zero, List.set_cons_succ, i64_w, i32_w]
      rfl
    refine pure_ (i := 18) (N := some 54) (v := ?_) (a' := ?_) #[true, true, true, true, true, true, true, true, true, true, true, true, true, true, true, true, true, true, true, false, false] rfl rfl (any_of HT_.out (by kernel_rfl)) (fun _ _ _ h => h) (Or.inl ⟨by rfl, ?_⟩) ?_ ?_
    rotate_left
    · intro w'
      go_simp
      with_reducible rfl
    rotate_left
    · simp only [Act.put, List.setIfInBounds_toArray, List.set_cons_zero, List.set_cons_succ, i64_w, i32_w]
      rfl
    refine pure_ (i := 19) (N := some 55) (v := ?_) (a' := ?_) #[true, true, true, true, true, true, true, true, true, true, true, true, true, true, true, true, true, true, true, true, false] rfl rfl (any_of HT_.out (by kernel_rfl)) (fun _ _ _ h => h) (Or.inl ⟨by rfl, ?_⟩) ?_ ?_
    rotate_left
    · intro w'
      go_simp
      with_reducible rfl
    rotate_left
    · simp only [Act.put, List.setIfInBounds_toArray, List.set_cons_zero, List.set_cons_succ, i64_w, i32_w]
      rfl
    refine pure_ (i := 20) (N := some 56) (v := ?_) (a' := ?_) #[true, true, true, true, true, true, true, true, true, true, true, true, true, true, true, true, true, true, true, true, true] rfl rfl (any_of HT_.out (by kernel_rfl)) (fun _ _ _ h => h) (Or.inl ⟨by rfl, ?_⟩) ?_ ?_
    rotate_left
    · intro w'
      go_simp
      with_reducible rfl
    rotate_left
    · simp only [Act.put, List.setIfInBounds_toArray, List.set_cons_zero, List.set_cons_succ, i64_w, i32_w]
      rfl
    refine done_ (done_of HT_.out (by kernel_rfl)) ?_
    have HB9 := Aside0.mk (below_step HB7.out hHeld)
    have HR9 := Aside0.mk (Kd.C_below (Kd.R_reads' HR7.out).2.2 hHeld)
    have HT9 := Aside0.mk ((hHeld.cell (World.block_lt_of_cell? _ _ t2)).trans t2)
    clear hHeld HB7 HR7 b3 t2 HST
    rw [List.length_map] at HR9
    have hn3 : x2.length ≤ 9223372036854775807 := by omega
    obtain ⟨wo, rfl⟩ : ∃ wo : World, wo = wr := ⟨_, rfl⟩
    go_wp2_with fail
    go_loopg [8] x2.length (fun gg s8 wr => ∃ k : Nat, k ≤ x2.length ∧ x2.length - k ≤ gg ∧ s8 = .int .i64 (k : Int) ∧ Aside0 (Below w9.heap.size w9 wr))
    case atStart => exact ⟨0, Nat.zero_le _, by omega, rfl, ⟨Below.refl _ _⟩⟩
    case round =>
    obtain ⟨k, hk, hgk, rfl, HBk⟩ := hrel
    by_cases hlk : k < x2.length
    · obtain ⟨ad7, e7, y0⟩ := Kd.at_int HR9.out (k : Int) (by omega) (by omega)
      subst e7
      obtain ⟨ad5, B12, d12, B13, d13, e5, -, -, -, -, -, -, -, v7, -⟩ := at_T56 HC2.out (k : Int) (by omega) (by omega)
      subst e5
      simp only [Int.toNat_natCast] at y0 v7
      have hsx := HSX.out (rd_T56 x2 (k : Int)) (by unfold rd_T56; rw [Int.toNat_natCast, List.getD_eq_getElem?_getD, List.getElem?_eq_getElem (by omega)]; exact List.getElem_mem _)
      have hrd : rd (x2.map fun s => (actV c.ch s.f6 (s.f0 / 1048576)).1) (k : Int) = (actV c.ch (rd_T56 x2 (k : Int)).f6 ((rd_T56 x2 (k : Int)).f0 / 1048576)).1 := by
        unfold rd rd_T56
        simp [List.getD_eq_getElem?_getD, hlk]
      rw [hrd] at y0
      replace y0 := (HBk.out.cell (World.block_lt_of_cell? _ _ y0)).trans y0
      replace v7 := ((below_step HB9.out HBk.out).cell (World.block_lt_of_cell? _ _ v7)).trans v7
      have t2 := (HBk.out.cell (World.block_lt_of_cell? _ _ HT9.out)).trans HT9.out
      clear hrd HR9 HC2 HSX
      unfold SpanVer at hsx
      have hz3 : (k : Int) < (x2.length : Int) := by omega
      generalize (actV c.ch (rd_T56 x2 (k : Int)).f6 ((rd_T56 x2 (k : Int)).f0 / 1048576)).1 = y at y0 hsx
      generalize (rd_T56 x2 (k : Int)).f7 = vv at v7 hsx
      obtain ⟨-, hsx⟩ := hsx
      go_upto_region 14 with fail
      rcases hsx with ⟨rfl, rfl⟩ | ⟨hy, hv⟩
      · skip
        refine start_ (n := 16) (S := fun w' => Below wr.heap.size wr w') (ds := []) #[false, false, false, false, false, false, false, false, false, false, false, false, false, false, false, false] (by kernel_rfl) rfl rfl (Below.refl _ _).drew (fun hHeld => ?_)
        refine with_tabW verT.tab14 verT.bits14 (fun HT_ HW_ => ?_)
        generalize wr.drew = wd at hHeld ⊢
        refine pure_ (i := 0) (N := some 63) (v := ?_) (a' := ?_) #[true, false, false, false, false, false, false, false, false, false, false, false, false, false, false, false] rfl rfl (any_of HT_.out (by kernel_rfl)) (fun _ _ _ h => h) (Or.inl ⟨by rfl, ?_⟩) ?_ ?_
        rotate_left
        · intro w'
          go_simp
          with_reducible rfl
        rotate_left
        · simp only [Act.put, List.setIfInBounds_toArray, List.set_cons_zero, List.set_cons_succ, i64_w, i32_w]
          rfl
        refine pure_ (i := 1) (N := some 64) (v := ?_) (a' := ?_) #[true, true, false, false, false, false, false, false, false, false, false, false, false, false, false, false] rfl rfl (any_of HT_.out (by kernel_rfl)) (fun _ _ _ h => h) (Or.inl ⟨by rfl, ?_⟩) ?_ ?_
        rotate_left
        · intro w'
          go_simp
          with_reducible rfl
        rotate_left
        · simp only [Act.put, List.setIfInBounds_toArray, List.set_cons_zero, List.set_cons_succ, i64_w, i32_w]
          rfl
        refine pure_ (i := 2) (N := some 65) (v := ?_) (a' := ?_) #[true, true, true, false, false, false, false, false, false, false, false, false, false, false, false, false] rfl rfl (any_of HT_.out (by kernel_rfl)) (fun _ _ _ h => h) (Or.inl ⟨by rfl, ?_⟩) ?_ ?_
        rotate_left
        · intro w'
          go_simp
          with_reducible rfl
        rotate_left
        · simp only [Act.put, List.setIfInBounds_toArray, List.set_cons_zero, List.set_cons_succ, i64_w, i32_w]
          rfl
        refine take_ (i := 3) (N := some 66) (v := ?_) (a' := ?_) #[true, true, true, true, false, false, false, false, false, false, false, false, false, false, false, false] rfl rfl (take_ofW HT_.out HW_.out (by kernel_rfl)) (fun _ _ _ h => h) (Or.inl ⟨by rfl, ?_⟩) hHeld ?_ ?_
        rotate_left
        · intro w' hS
          replace y0 := (hS.cell (World.block_lt_of_cell? _ _ y0)).trans y0
          go_simp
          with_reducible rfl
        rotate_left
        · simp only [Act.put, List.setIfInBounds_toArray, List.set_cons_zero, List.set_cons_succ, i64_w, i32_w]
          rfl
        refine pure_ (i := 4) (N := some 67) (v := ?_) (a' := ?_) #[true, true, true, true, true, false, false, false, false, false, false, false, false, false, false, false] rfl rfl (any_of HT_.out (by kernel_rfl)) (fun _ _ _ h => h) (Or.inl ⟨by rfl, ?_⟩) ?_ ?_
        rotate_left
        · intro w'
          go_simp
          with_reducible rfl
        rotate_left
        · simp only [Act.put, List.setIfInBounds_toArray, List.set_cons_zero, List.set_cons_succ, i64_w, i32_w]
          rfl
        refine pure_ (i := 5) (N := some 68) (v := ?_) (a' := ?_) #[true, true, true, true, true, true, false, false, false, false, false, false, false, false, false, false] rfl rfl (any_of HT_.out (by kernel_rfl)) (fun _ _ _ h => h) (Or.inl ⟨by rfl, ?_⟩) ?_ ?_
        rotate_left
        · intro w'
          go_simp
          with_reducible rfl
        rotate_left
        · simp only [Act.put, List.setIfInBounds_toArray, List.set_cons_zero, List.set_cons_succ, i64_w, i32_w]
          rfl
        refine pure_ (i := 6) (N := some 69) (v := ?_) (a' := ?_) #[true, true, true, true, true, true, true, false, false, false, false, false, false, false, false, false] rfl rfl (any_of HT_.out (by kernel_rfl)) (fun _ _ _ h => h) (Or.inl ⟨by rfl, ?_⟩) ?_ ?_
        rotate_left
        · intro w'
          go_simp
          with_reducible rfl
        rotate_left
        · simp only [Act.put, List.setIfInBounds_toArray, List.set_cons_zero, List.set_cons_succ, i64_w, i32_w]
          rfl
        refine pure_ (i := 7) (N := some 70) (v := ?_) (a' := ?_) #[true, true, true, true, true, true, true, true, false, false, false, false, false, false, false, false] rfl rfl (any_of HT_.out (by kernel_rfl)) (fun _ _ _ h => h) (Or.inl ⟨by rfl, ?_⟩) ?_ ?_
        rotate_left
        · intro w'
          go_simp
          with_reducible rfl
        rotate_left
        · simp only [Act.put, List.setIfInBounds_toArray, List.set_cons_zero, List.set_cons_succ, i64_w, i32_w]
          rfl
        refine pure_ (i := 8) (N := some 71) (v := ?_) (a' := ?_) #[true, true, true, true, true, true, true, true, true, false, false, false, false, false, false, false] rfl rfl (any_of HT_.out (by kernel_rfl)) (fun _ _ _ h => h) (Or.inl ⟨by rfl, ?_⟩) ?_ ?_
        rotate_left
        · intro w'
          go_simp
          with_reducible rfl
        rotate_left
        · simp only [Act.put, List.setIfInBounds_toArray, List.set_cons_zero, List.set_cons_succ, i64_w, i32_w]
          rfl
        refine take_ (i := 9) (N := some 72) (v := ?_) (a' := ?_) #[true, true, true, true, true, true, true, true, true, true, false, false, false, false, false, false] rfl rfl (take_ofW HT_.out HW_.out (by kernel_rfl)) (fun _ _ _ h => h) (Or.inl ⟨by rfl, ?_⟩) hHeld ?_ ?_
        rotate_left
        · intro w' hS
          replace t2 := (hS.cell (World.block_lt_of_cell? _ _ t2)).trans t2
          go_simp
          with_reducible rfl
        rotate_left
        · simp only [Act.put, List.setIfInBounds_toArray, List.set_cons_zero, List.set_cons_succ, i64_w, i32_w]
          rfl
        refine pure_ (i := 10) (N := some 73) (v := ?_) (a' := ?_) #[true, true, true, true, true, true, true, true, true, true, true, false, false, false, false, false] rfl rfl (any_of HT_.out (by kernel_rfl)) (fun _ _ _ h => h) (Or.inl ⟨by rfl, ?_⟩) ?_ ?_
        rotate_left
        · intro w'
          go_simp
          with_reducible rfl
        rotate_left
        · simp only [Act.put, List.setIfInBounds_toArray, List.set_cons_zero, List.set_cons_succ, i64_w, i32_w]
          rfl
        refine pure_ (i := 11) (N := some 74) (v := ?_) (a' := ?_) #[true, true, true, true, true, true, true, true, true, true, true, true, false, false, false, false] rfl rfl (any_of HT_.out (by kernel_rfl)) (fun _ _ _ h => h) (Or.inl ⟨by rfl, ?_⟩) ?_ ?_
        rotate_left
        · intro w'
          go_simp
          with_reducible rfl
        rotate_left
        · simp only [Act.put, List.setIfInBounds_toArray, List.set_cons_zero, List.set_cons_succ, i64_w, i32_w]
          rfl
        refine pure_ (i := 12) (N := some 75) (v := ?_) (a' := ?_) #[true, true, true, true, true, true, true, true, true, true, true, true, true, false, false, false] rfl rfl (any_of HT_.out (by kernel_rfl)) (fun _ _ _ h => h) (Or.inl ⟨by rfl, ?_⟩) ?_ ?_
        rotate_left
        · intro w'
          go_simp
          with_reducible rfl
        rotate_left
        · simp only [Act.put, List.setIfInBounds_toArray, List.set_cons_zero, List.set_cons_succ, i64_w, i32_w]
          rfl
        refine take_ (i := 13) (N := some 76) (v := ?_) (a' := ?_) #[true, true, true, true, true, true, true, true, true, true, true, true, true, true, false, false] rfl rfl (take_ofW HT_.out HW_.out (by kernel_rfl)) (fun _ _ _ h => h) (Or.inl ⟨by rfl, ?_⟩) hHeld ?_ ?_
        rotate_left
        · intro w' hS
          replace v7 := (hS.cell (World.block_lt_of_cell? _ _ v7)).trans v7
          go_simp
          with_reducible rfl
        rotate_left
        · simp only [Act.put, List.setIfInBounds_toArray, List.set_cons_zero, List.set_cons_succ, i64_w, i32_w]
          rfl
        refine pure_ (i := 14) (N := some 77) (v := ?_) (a' := ?_) #[true, true, true, true, true, true, true, true, true, true, true, true, true, true, true, false] rfl rfl (any_of HT_.out (by kernel_rfl)) (fun _ _ _ h => h) (Or.inl ⟨by rfl, ?_⟩) ?_ ?_
        rotate_left
        · intro w'
          go_simp
          with_reducible rfl
        rotate_left
        · simp only [Act.put, List.setIfInBounds_toArray, List.set_cons_zero, List.set_cons_succ, i64_w, i32_w]
          rfl
        refine pure_ (i := 15) (N := some 78) (v := ?_) (a' := ?_) #[true, true, true, true, true, true, true, true, true, true, true, true, true, true, true, true] rfl rfl (any_of HT_.out (by kernel_rfl)) (fun _ _ _ h => h) (Or.inl ⟨by rfl, ?_⟩) ?_ ?_
        rotate_left
        · intro w'
          go_simp
          with_reducible rfl
        rotate_left
        · simp only [Act.put, List.setIfInBounds_toArray, List.set_cons_zero, List.set_cons_succ, i64_w, i32_w]
          rfl
        refine done_ (done_of HT_.out (by kernel_rfl)) ?_
        have HBk := Aside0.mk (below_step HBk.out hHeld)
        clear hHeld y0 v7 t2
        go_wp2
        go_roundg (x2.length - (k + 1))
        case measure => omega
        case rel => exact ⟨k + 1, by omega, by omega, by first | rfl | go_num, HBk⟩
      · have hq1 : (y == 0) = false := beq_eq_false_iff_ne.mpr (by omega)
        clear hy
        have hq2 : vv.toList.isEmpty = false := by
          rcases hv with rfl | rfl | rfl <;> kernel_rfl
        clear hv
        refine start_ (n := 16) (S := fun w' => Below wr.heap.size wr w') (ds := []) #[false, false, false, false, false, false, false, false, false, false, false, false, false, false, false, false] (by kernel_rfl) rfl rfl (Below.refl _ _).drew (fun hHeld => ?_)
        refine with_tabW verT.tab14 verT.bits14 (fun HT_ HW_ => ?_)
        generalize wr.drew = wd at hHeld ⊢
        refine pure_ (i := 0) (N := some 63) (v := ?_) (a' := ?_) #[true, false, false, false, false, false, false, false, false, false, false, false, false, false, false, false] rfl rfl (any_of HT_.out (by kernel_rfl)) (fun _ _ _ h => h) (Or.inl ⟨by rfl, ?_⟩) ?_ ?_
        rotate_left
        · intro w'
          go_simp
          with_reducible rfl
        rotate_left
        · simp only [Act.put, List.setIfInBounds_toArray, List.set_cons_zero, List.set_cons_succ, i64_w, i32_w]
          rfl
        refine pure_ (i := 1) (N := some 64) (v := ?_) (a' := ?_) #[true, true, false, false, false, false, false, false, false, false, false, false, false, false, false, false] rfl rfl (any_of HT_.out (by kernel_rfl)) (fun _ _ _ h => h) (Or.inl ⟨by rfl, ?_⟩) ?_ ?_
        rotate_left
        · intro w'
          go_simp
          with_reducible rfl
        rotate_left
        · simp only [Act.put, List.setIfInBounds_toArray, List.set_cons_zero, List.set_cons_succ, i64_w, i32_w]
          rfl
        refine pure_ (i := 2) (N := some 65) (v := ?_) (a' := ?_) #[true, true, true, false, false, false, false, false, false, false, false, false, false, false, false, false] rfl rfl (any_of HT_.out (by kernel_rfl)) (fun _ _ _ h => h) (Or.inl ⟨by rfl, ?_⟩) ?_ ?_
        rotate_left
        · intro w'
          go_simp
          with_reducible rfl
        rotate_left
        · simp only [Act.put, List.setIfInBounds_toArray, List.set_cons_zero, List.set_cons_succ, i64_w, i32_w]
          rfl
        refine take_ (i := 3) (N := some 66) (v := ?_) (a' := ?_) #[true, true, true, true, false, false, false, false, false, false, false, false, false, false, false, false] rfl rfl (take_ofW HT_.out HW_.out (by kernel_rfl)) (fun _ _ _ h => h) (Or.inl ⟨by rfl, ?_⟩) hHeld ?_ ?_
        rotate_left
        · intro w' hS
          replace y0 := (hS.cell (World.block_lt_of_cell? _ _ y0)).trans y0
          go_simp
          with_reducible rfl
        rotate_left
        · simp only [Act.put, List.setIfInBounds_toArray, List.set_cons_zero, List.set_cons_succ, i64_w, i32_w]
          rfl
        refine pure_ (i := 4) (N := some 67) (v := ?_) (a' := ?_) #[true, true, true, true, true, false, false, false, false, false, false, false, false, false, false, false] rfl rfl (any_of HT_.out (by kernel_rfl)) (fun _ _ _ h => h) (Or.inl ⟨by rfl, ?_⟩) ?_ ?_
        rotate_left
        · intro w'
          go_simp
          with_reducible rfl
        rotate_left
        · simp only [Act.put, List.setIfInBounds_toArray, List.set_cons_zero, List.set_cons_succ, i64_w, i32_w]
          rfl
        refine pure_ (i := 5) (N := some 68) (v := ?_) (a' := ?_) #[true, true, true, true, true, true, false, false, false, false, false, false, false, false, false, false] rfl rfl (any_of HT_.out (by kernel_rfl)) (fun _ _ _ h => h) (Or.inl ⟨by rfl, ?_⟩) ?_ ?_
        rotate_left
        · intro w'
          go_simp
          with_reducible rfl
        rotate_left
        · simp only [Act.put, List.setIfInBounds_toArray, List.set_cons_zero, List.set_cons_succ, i64_w, i32_w]
          rfl
        refine pure_ (i := 6) (N := some 69) (v := ?_) (a' := ?_) #[true, true, true, true, true, true, true, false, false, false, false, false, false, false, false, false] rfl rfl (any_of HT_.out (by kernel_rfl)) (fun _ _ _ h => h) (Or.inl ⟨by rfl, ?_⟩) ?_ ?_
        rotate_left
        · intro w'
          go_simp
          with_reducible rfl
        rotate_left
        · simp only [Act.put, List.setIfInBounds_toArray, List.set_cons_zero, List.set_cons_succ, i64_w, i32_w]
          rfl
        refine pure_ (i := 7) (N := some 70) (v := ?_) (a' := ?_) #[true, true, true, true, true, true, true, true, false, false, false, false, false, false, false, false] rfl rfl (any_of HT_.out (by kernel_rfl)) (fun _ _ _ h => h) (Or.inl ⟨by rfl, ?_⟩) ?_ ?_
        rotate_left
        · intro w'
          go_simp
          with_reducible rfl
        rotate_left
        · simp only [Act.put, List.setIfInBounds_toArray, List.set_cons_zero, List.set_cons_succ, i64_w, i32_w]
          rfl
        refine pure_ (i := 8) (N := some 71) (v := ?_) (a' := ?_) #[true, true, true, true, true, true, true, true, true, false, false, false, false, false, false, false] rfl rfl (any_of HT_.out (by kernel_rfl)) (fun _ _ _ h => h) (Or.inl ⟨by rfl, ?_⟩) ?_ ?_
        rotate_left
        · intro w'
          go_simp
          with_reducible rfl
        rotate_left
        · simp only [Act.put, List.setIfInBounds_toArray, List.set_cons_zero, List.set_cons_succ, i64_w, i32_w]
          rfl
        refine take_ (i := 9) (N := some 72) (v := ?_) (a' := ?_) #[true, true, true, true, true, true, true, true, true, true, false, false, false, false, false, false] rfl rfl (take_ofW HT_.out HW_.out (by kernel_rfl)) (fun _ _ _ h => h) (Or.inl ⟨by rfl, ?_⟩) hHeld ?_ ?_
        rotate_left
        · intro w' hS
          replace t2 := (hS.cell (World.block_lt_of_cell? _ _ t2)).trans t2
          go_simp
          with_reducible rfl
        rotate_left
        · simp only [Act.put, List.setIfInBounds_toArray, List.set_cons_zero, List.set_cons_succ, i64_w, i32_w]
          rfl
        refine pure_ (i := 10) (N := some 73) (v := ?_) (a' := ?_) #[true, true, true, true, true, true, true, true, true, true, true, false, false, false, false, false] rfl rfl (any_of HT_.out (by kernel_rfl)) (fun _ _ _ h => h) (Or.inl ⟨by rfl, ?_⟩) ?_ ?_
        rotate_left
        · intro w'
          go_simp
          with_reducible rfl
        rotate_left
        · simp only [Act.put, List.setIfInBounds_toArray, List.set_cons_zero, List.set_cons_succ, i64_w, i32_w]
          rfl
        refine pure_ (i := 11) (N := some 74) (v := ?_) (a' := ?_) #[true, true, true, true, true, true, true, true, true, true, true, true, false, false, false, false] rfl rfl (any_of HT_.out (by kernel_rfl)) (fun _ _ _ h => h) (Or.inl ⟨by rfl, ?_⟩) ?_ ?_
        rotate_left
        · intro w'
          go_simp
          with_reducible rfl
        rotate_left
        · simp only [Act.put, List.setIfInBounds_toArray, List.set_cons_zero, List.set_cons_succ, i64_w, i32_w]
          rfl
        refine pure_ (i := 12) (N := some 75) (v := ?_) (a' := ?_) #[true, true, true, true, true, true, true, true, true, true, true, true, true, false, false, false] rfl rfl (any_of HT_.out (by kernel_rfl)) (fun _ _ _ h => h) (Or.inl ⟨by rfl, ?_⟩) ?_ ?_
        rotate_left
        · intro w'
          go_simp
          with_reducible rfl
        rotate_left
        · simp only [Act.put, List.setIfInBounds_toArray, List.set_cons_zero, List.set_cons_succ, i64_w, i32_w]
          rfl
        refine take_ (i := 13) (N := some 76) (v := ?_) (a' := ?_) #[true, true, true, true, true, true, true, true, true, true, true, true, true, true, false, false] rfl rfl (take_ofW HT_.out HW_.out (by kernel_rfl)) (fun _ _ _ h => h) (Or.inl ⟨by rfl, ?_⟩) hHeld ?_ ?_
        rotate_left
        · intro w' hS
          replace v7 := (hS.cell (World.block_lt_of_cell? _ _ v7)).trans v7
          go_simp
          with_reducible rfl
        rotate_left
        · simp only [Act.put, List.setIfInBounds_toArray, List.set_cons_zero, List.set_cons_succ, i64_w, i32_w]
          rfl
        refine pure_ (i := 14) (N := some 77) (v := ?_) (a' := ?_) #[true, true, true, true, true, true, true, true, true, true, true, true, true, true, true, false] rfl rfl (any_of HT_.out (by kernel_rfl)) (fun _ _ _ h => h) (Or.inl ⟨by rfl, ?_⟩) ?_ ?_
        rotate_left
        · intro w'
          go_simp
          with_reducible rfl
        rotate_left
        · simp only [Act.put, List.setIfInBounds_toArray, List.set_cons_zero, List.set_cons_succ, i64_w, i32_w]
          rfl
        refine pure_ (i := 15) (N := some 78) (v := ?_) (a' := ?_) #[true, true, true, true, true, true, true, true, true, true, true, true, true, true, true, true] rfl rfl (any_of HT_.out (by kernel_rfl)) (fun _ _ _ h => h) (Or.inl ⟨by rfl, ?_⟩) ?_ ?_
        rotate_left
        · intro w'
          go_simp
          with_reducible rfl
        rotate_left
        · simp only [Act.put, List.setIfInBounds_toArray, List.set_cons_zero, List.set_cons_succ, i64_w, i32_w]
          rfl
        refine done_ (done_of HT_.out (by kernel_rfl)) ?_
        have HBk := Aside0.mk (below_step HBk.out hHeld)
        clear hHeld y0 v7 t2
        go_wp2
        go_roundg (x2.length - (k + 1))
        case measure => omega
        case rel => exact ⟨k + 1, by omega, by omega, by first | rfl | go_num, HBk⟩
    · have hz3 : decide (k < x2.length) = false := by simp; omega
      have hz4 : decide ((k : Int) < (x2.length : Int)) = false := by simp; omega
      clear hlk
      go_wp2
      go_roundg (n - (i + 1))
      case measure => omega
      case rel => exact ⟨i + 1, by omega, by omega, rfl, ⟨below_step HB9.out HBk.out⟩⟩
  · have hz1 : decide (i < n) = false := by simp; omega
    have hz2 : decide ((i : Int) < (n : Int)) = false := by simp; omega
    clear hlt
    go_wp2
    go_ret
    exact ⟨rfl, below_step HB3.out HB.out⟩
end Go.Proofs.Ytdadnapfecmmdaa.P
namespace Go.Proofs.Ytdadnapfecmmdaa.P
set_option linter.unusedVariables false
set_option linter.unusedSimpArgs false
open Go.RowKit Go.Proofs.YtdadnapfecmmdaaW.PrintWords Go.Proofs.YtdadnapfecmmdaaW.PrintLast Go.Proofs.YtdadnapfecmmdaaW.PrintMore
theorem u8list (cs : List Value) (h : ∀ i (hi : i < cs.length), ∃ n, cs[i] = .int .u8 n ∧ U8 n) : ∃ ns : List Int, cs = ns.map (Value.int .u8) ∧ ∀ n ∈ ns, U8 n := by
  induction cs with
  | nil => exact ⟨[], rfl, by simp⟩
  | cons c r ih =>
    obtain ⟨n, e, hn⟩ := h 0 (by simp)
    obtain ⟨ns, e2, h2⟩ := ih (fun i hi => by
      have := h (i + 1) (by simp; omega)
      simpa using this)
    refine ⟨n :: ns, ?_, ?_⟩
    · simp only [List.getElem_cons_zero] at e
      rw [e, e2]; rfl
    · intro m hm
      rcases List.mem_cons.mp hm with rfl | hm
      · exact hn
      · exact h2 m hm
section
variable {H : Type} {enc : TypeId × Value → H} {w : World} {base : Nat} {sp : Nat → Bool} {held : Bool}
theorem u8struct {e : TypeId} {fs : Array Field} {fuel : Nat} {cs : List Value} {x : DataW H × List MemPlace} (ht : Try.prog.underlying e = some (.struct fs)) (hc : Try.prog.cellsOf e = fs.size)
    (hone : ∀ i (h : i < fs.size), fs[i].type = 5 ∧ fs[i].offset = i) (h : DataW.trod enc Try.prog w base sp held fuel e cs = some x) : ∃ ns : List Int, cs = ns.map (Value.int .u8) ∧ ns.length = fs.size ∧ ∀ n ∈ ns, U8 n := by
  obtain ⟨xs, n, _, _, hl, hxl, hf⟩ := DataW.trod_struct ht h
  rw [hc] at hl
  obtain ⟨ns, e1, e2⟩ := u8list cs (fun i hi => by
    obtain ⟨q1, q2⟩ := hone i (by omega)
    have g := hf i fs[i] (by simp [show i < fs.size by omega])
    rw [q1, q2, List.getElem?_eq_getElem (by omega)] at g
    obtain ⟨m, e, _, hw⟩ := DataW.trod_int Try.underlying5 g
    have c5 : Try.prog.cellsOf 5 = 1 := by kernel_rfl
    rw [c5, List.drop_eq_getElem_cons (by omega)] at e
    simp only [List.take_succ_cons, List.take_zero, List.cons.injEq, and_true] at e
    exact ⟨m, e, bounds_u8 hw⟩)
  exact ⟨ns, e1, by rw [e1, List.length_map] at hl; exact hl, e2⟩
theorem u8slice {α : Type} (d : Kd α) (mk : List Int → α) {t e : TypeId} {fs : Array Field} {fuel : Nat} {cs : List Value} {x : DataW H × List MemPlace} (hs : Try.prog.underlying t = some (.slice e)) (ht : Try.prog.underlying e = some (.struct fs)) (hc : Try.prog.cellsOf e = fs.size)
    (hsz : d.sz = fs.size) (hone : ∀ i (h : i < fs.size), fs[i].type = 5 ∧ fs[i].offset = i) (hmk : ∀ (W : World) ns, ns.length = fs.size → d.K W (mk ns) (ns.map (Value.int .u8)))
    (h : DataW.trod enc Try.prog w base sp held fuel t cs = some x) :
    ∃ A c, ∃ l : List α, cs = [.slice A l.length c] ∧ l.length ≤ c ∧ d.C w A l.length l ∧ ∀ y ∈ l, ∃ ns, y = mk ns ∧ ns.length = fs.size ∧ ∀ n ∈ ns, U8 n := by
  rcases Go.Deep.open_slice hs h with ⟨rfl, _⟩ | ⟨a, len, cap, m, n, D, Pl, rfl, hb, hle, hcap, hm, _, hel⟩
  · exact ⟨none, 0, [], rfl, Nat.le_refl _, ⟨rfl, by simp, fun h => absurd h (by simp)⟩, by simp⟩
  · have key : ∀ j : Nat, ∃ ns : List Int, j < len → ns.length = fs.size ∧ (∀ n ∈ ns, U8 n) ∧ ∀ i u, (ns.map (Value.int .u8))[i]? = some u → w.cell? (a.add (j * fs.size + i)) = some u := fun j => by
      by_cases hj : j < len
      · obtain ⟨cs', h1, h2⟩ := hel j (by rw [hm]; split <;> omega)
        obtain ⟨ns, rfl, h3, h4⟩ := u8struct ht hc hone h2
        refine ⟨ns, fun _ => ⟨h3, h4, fun i u hu => ?_⟩⟩
        obtain ⟨_, hlen, hcell⟩ := World.cells?_some h1
        have hi : i < fs.size := by
          have := (List.getElem?_eq_some_iff.mp hu).1
          rw [List.length_map] at this
          omega
        rw [hc] at hcell
        rw [← Go.Deep.add_add, hcell i hi]
        exact hu
      · exact ⟨[], fun h => absurd h hj⟩
    obtain ⟨f, hf⟩ := Classical.axiomOfChoice key
    have hll : ((List.range len).map fun j => mk (f j)).length = len := by simp
    refine ⟨some a, cap, (List.range len).map fun j => mk (f j), by rw [hll], by rw [hll]; exact hle, ?_, ?_⟩
    · rw [hll]
      refine ⟨hll, by have : maxLen ≤ 9223372036854775807 := by decide
                      omega, fun _ => ⟨a, rfl, fun j y hy => ?_⟩⟩
      rw [List.getElem?_map] at hy
      obtain ⟨j', hj', rfl⟩ := Option.map_eq_some_iff.mp hy
      obtain ⟨hjl, e⟩ := List.getElem?_eq_some_iff.mp hj'
      rw [List.getElem_range] at e
      subst e
      rw [List.length_range] at hjl
      obtain ⟨g1, g2, g3⟩ := hf j hjl
      exact ⟨(f j).map (Value.int .u8), by rw [List.length_map, g1, hsz], hmk w _ g1, fun i u hu => by rw [hsz]; exact g3 i u hu⟩
    · intro y hy
      obtain ⟨j, hj, rfl⟩ := List.mem_map.mp hy
      obtain ⟨g1, g2, _⟩ := hf j (List.mem_range.mp hj)
      exact ⟨f j, rfl, g1, g2⟩
def mk87 (ns : List Int) : S87 := ⟨ns.getD 0 0, ns.getD 1 0, ns.getD 2 0, ns.getD 3 0, ns.getD 4 0⟩
def mk93 (ns : List Int) : S93 := ⟨ns.getD 0 0, ns.getD 1 0, ns.getD 2 0, ns.getD 3 0, ns.getD 4 0⟩
def mk59 (ns : List Int) : S59 := ⟨ns.getD 0 0, ns.getD 1 0, ns.getD 2 0, ns.getD 3 0, ns.getD 4 0, ns.getD 5 0⟩
theorem mk87_K (W : World) (ns : List Int) (h : ns.length = 5) : k87.K W (mk87 ns) (ns.map (Value.int .u8)) := by
  match ns, h with
  | [a, b, c, d, e], _ => exact k87_mk W ⟨a, b, c, d, e⟩
theorem mk93_K (W : World) (ns : List Int) (h : ns.length = 5) : k93.K W (mk93 ns) (ns.map (Value.int .u8)) := by
  match ns, h with
  | [a, b, c, d, e], _ => exact k93_mk W ⟨a, b, c, d, e⟩
theorem mk59_K (W : World) (ns : List Int) (h : ns.length = 6) : k59.K W (mk59 ns) (ns.map (Value.int .u8)) := by
  match ns, h with
  | [a, b, c, d, e, f], _ => exact k59_mk W ⟨a, b, c, d, e, f⟩
def Fields5 (fs : Array Field) : Bool := (List.range fs.size).all fun i => match fs[i]? with
  | some f => f.type == 5 && f.offset == i
  | none => false
theorem fields5 {fs : Array Field} (h : Fields5 fs = true) : ∀ i (h : i < fs.size), fs[i].type = 5 ∧ fs[i].offset = i := fun i hi => by
  have := List.all_eq_true.mp h i (List.mem_range.mpr hi)
  simp only [Array.getElem?_eq_getElem hi, Bool.and_eq_true, beq_iff_eq] at this
  exact this
set_option maxRecDepth 100000 in
theorem openOffs {fuel : Nat} {c0 c1 c2 : Value} {x : DataW H × List MemPlace} (h : DataW.trod enc Try.prog w base sp held fuel 37 [c0, c1, c2] = some x) : ∃ a b c : Int, c0 = .int .i8 a ∧ c1 = .int .i8 b ∧ c2 = .int .i8 c ∧ I8 a ∧ I8 b ∧ I8 c := by
  obtain ⟨xs, m, _, _, hl, hn, hi⟩ := DataW.trod_array Try.underlying37 h
  obtain ⟨x0, x1, x2, rfl⟩ : ∃ a b c, xs = [a, b, c] := by
    match xs, hn with
    | [a, b, c], _ => exact ⟨a, b, c, rfl⟩
  have h0 := hi 0 (by decide)
  have h1 := hi 1 (by decide)
  have h2 := hi 2 (by decide)
  have cc : Try.prog.cellsOf 36 = 1 := by kernel_rfl
  rw [cc] at h0 h1 h2
  obtain ⟨n0, e0, _, w0⟩ := DataW.trod_int Try.underlying36 (x := x0) h0
  obtain ⟨n1, e1, _, w1⟩ := DataW.trod_int Try.underlying36 (x := x1) h1
  obtain ⟨n2, e2, _, w2⟩ := DataW.trod_int Try.underlying36 (x := x2) h2
  simp at e0 e1 e2
  exact ⟨n0, n1, n2, e0, e1, e2, bounds_i8 w0, bounds_i8 w1, bounds_i8 w2⟩
theorem openU8 {fuel : Nat} {c : Value} {x : DataW H × List MemPlace} (h : DataW.trod enc Try.prog w base sp held fuel 5 [c] = some x) : ∃ n : Int, c = .int .u8 n ∧ U8 n := by
  obtain ⟨n, e, _, hw⟩ := DataW.trod_int Try.underlying5 h
  simp at e
  exact ⟨n, e, bounds_u8 hw⟩
set_option maxRecDepth 100000 in
theorem openPlan {r : Reach} {b : Nat} {v : Value} {d : DataW H} {ps : List MemPlace} (hv : Value.okWide Try.prog w r b 41 v) (h : DataW.Trod enc Try.prog w base sp held 41 v d ps) : ∃ (p : Plan) (a : PlanAt), v = .agg (p.cells a) ∧ PlanR w a p ∧ PlanOk p := by
  obtain ⟨cs, rfl, hs⟩ : ∃ cs : Array Value, v = .agg cs ∧ cs.size = 14 := by
    simp only [Value.okWide, Try.underlying41] at hv
    obtain ⟨cs, h1, h2, _⟩ := hv
    exact ⟨cs, h1, by rw [h2]; kernel_rfl⟩
  obtain ⟨cs⟩ := cs
  obtain ⟨c0, c1, c2, c3, c4, c5, c6, c7, c8, c9, c10, c11, c12, c13, rfl⟩ : ∃ c0 c1 c2 c3 c4 c5 c6 c7 c8 c9 c10 c11 c12 c13, cs = [c0, c1, c2, c3, c4, c5, c6, c7, c8, c9, c10, c11, c12, c13] := by
    match cs, hs with
    | [c0, c1, c2, c3, c4, c5, c6, c7, c8, c9, c10, c11, c12, c13], _ => exact ⟨c0, c1, c2, c3, c4, c5, c6, c7, c8, c9, c10, c11, c12, c13, rfl⟩
  obtain ⟨fuel, hf⟩ := h
  obtain ⟨xs, m, _, _, hl, hn, hi⟩ := DataW.trod_struct Try.underlying41 hf
  obtain ⟨x0, x1, x2, x3, x4, x5, x6, x7, x8, x9, x10, x11, rfl⟩ : ∃ x0 x1 x2 x3 x4 x5 x6 x7 x8 x9 x10 x11, xs = [x0, x1, x2, x3, x4, x5, x6, x7, x8, x9, x10, x11] := by
    match xs, hn with
    | [x0, x1, x2, x3, x4, x5, x6, x7, x8, x9, x10, x11], _ => exact ⟨x0, x1, x2, x3, x4, x5, x6, x7, x8, x9, x10, x11, rfl⟩
  have k5 : Try.prog.cellsOf 5 = 1 := by kernel_rfl
  have k35 : Try.prog.cellsOf 35 = 1 := by kernel_rfl
  have k37 : Try.prog.cellsOf 37 = 3 := by kernel_rfl
  have k38 : Try.prog.cellsOf 38 = 1 := by kernel_rfl
  have k39 : Try.prog.cellsOf 39 = 1 := by kernel_rfl
  have g0 := hi 0 { name := "Seed", type := 5, offset := 0, embedded := false, tag := "", pkgPath := "", byteOffset := 0 } rfl
  have g1 := hi 1 { name := "Parts", type := 35, offset := 1, embedded := false, tag := "", pkgPath := "", byteOffset := 8 } rfl
  have g2 := hi 2 { name := "Offsets", type := 37, offset := 2, embedded := false, tag := "", pkgPath := "", byteOffset := 32 } rfl
  have g3 := hi 3 { name := "Changes", type := 38, offset := 5, embedded := false, tag := "", pkgPath := "", byteOffset := 40 } rfl
  have g4 := hi 4 { name := "Troubles", type := 39, offset := 6, embedded := false, tag := "", pkgPath := "", byteOffset := 64 } rfl
  have g5 := hi 5 { name := "First", type := 5, offset := 7, embedded := false, tag := "", pkgPath := "", byteOffset := 88 } rfl
  have g6 := hi 6 { name := "Slots", type := 5, offset := 8, embedded := false, tag := "", pkgPath := "", byteOffset := 89 } rfl
  have g7 := hi 7 { name := "PerSlot", type := 5, offset := 9, embedded := false, tag := "", pkgPath := "", byteOffset := 90 } rfl
  have g8 := hi 8 { name := "Delay", type := 5, offset := 10, embedded := false, tag := "", pkgPath := "", byteOffset := 91 } rfl
  have g9 := hi 9 { name := "Chunk", type := 5, offset := 11, embedded := false, tag := "", pkgPath := "", byteOffset := 92 } rfl
  have g10 := hi 10 { name := "Loss", type := 5, offset := 12, embedded := false, tag := "", pkgPath := "", byteOffset := 93 } rfl
  have g11 := hi 11 { name := "Repeat", type := 5, offset := 13, embedded := false, tag := "", pkgPath := "", byteOffset := 94 } rfl
  simp only [k5, k35, k37, k38, k39] at g0 g1 g2 g3 g4 g5 g6 g7 g8 g9 g10 g11
  obtain ⟨n0, rfl, b0⟩ := openU8 (c := c0) (x := x0) g0
  obtain ⟨A1, d1, l1, e1, hl1, hc1, ho1⟩ := u8slice k87 mk87 Try.underlying35 Try.underlying87 (by kernel_rfl) (by kernel_rfl) (fields5 (by kernel_rfl)) mk87_K (x := x1) g1
  obtain ⟨o0, o1, o2, rfl, rfl, rfl, bo0, bo1, bo2⟩ := openOffs (c0 := c2) (c1 := c3) (c2 := c4) (x := x2) g2
  obtain ⟨A2, d2, l2, e2, hl2, hc2, ho2⟩ := u8slice k93 mk93 Try.underlying38 Try.underlying93 (by kernel_rfl) (by kernel_rfl) (fields5 (by kernel_rfl)) mk93_K (x := x3) g3
  obtain ⟨A3, d3, l3, e3, hl3, hc3, ho3⟩ := u8slice k59 mk59 Try.underlying39 Try.underlying59 (by kernel_rfl) (by kernel_rfl) (fields5 (by kernel_rfl)) mk59_K (x := x4) g4
  obtain ⟨n5, rfl, b5⟩ := openU8 (c := c7) (x := x5) g5
  obtain ⟨n6, rfl, b6⟩ := openU8 (c := c8) (x := x6) g6
  obtain ⟨n7, rfl, b7⟩ := openU8 (c := c9) (x := x7) g7
  obtain ⟨n8, rfl, b8⟩ := openU8 (c := c10) (x := x8) g8
  obtain ⟨n9, rfl, b9⟩ := openU8 (c := c11) (x := x9) g9
  obtain ⟨n10, rfl, b10⟩ := openU8 (c := c12) (x := x10) g10
  obtain ⟨n11, rfl, b11⟩ := openU8 (c := c13) (x := x11) g11
  obtain rfl : c1 = .slice A1 l1.length d1 := by simpa [Value.cells] using e1
  obtain rfl : c5 = .slice A2 l2.length d2 := by simpa [Value.cells] using e2
  obtain rfl : c6 = .slice A3 l3.length d3 := by simpa [Value.cells] using e3
  refine ⟨⟨n0, l1, o0, o1, o2, l2, l3, n5, n6, n7, n8, n9, n10, n11⟩, ⟨A1, d1, A2, d2, A3, d3⟩, rfl, ⟨hc1, hl1, hc2, hl2, hc3, hl3⟩, ⟨b0, bo0, bo1, bo2, b5, b6, b7, b8, b9, b10, b11, ?_, ?_, ?_⟩⟩
  · intro x hx
    obtain ⟨ns, rfl, hq, hu⟩ := ho1 x hx
    match ns, hq with
    | [q0, q1, q2, q3, q4], _ => exact ⟨hu q0 (by simp), hu q1 (by simp), hu q2 (by simp), hu q3 (by simp), hu q4 (by simp)⟩
  · intro x hx
    obtain ⟨ns, rfl, hq, hu⟩ := ho2 x hx
    match ns, hq with
    | [q0, q1, q2, q3, q4], _ => exact ⟨hu q0 (by simp), hu q1 (by simp), hu q2 (by simp), hu q3 (by simp), hu q4 (by simp)⟩
  · intro x hx
    obtain ⟨ns, rfl, hq, hu⟩ := ho3 x hx
    match ns, hq with
    | [q0, q1, q2, q3, q4, q5], _ => exact ⟨hu q0 (by simp), hu q1 (by simp), hu q2 (by simp), hu q3 (by simp), hu q4 (by simp), hu q5 (by simp)⟩
end
end Go.Proofs.Ytdadnapfecmmdaa.P
