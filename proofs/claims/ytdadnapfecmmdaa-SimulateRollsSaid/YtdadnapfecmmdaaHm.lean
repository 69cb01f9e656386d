/- A map of the call's own, told as the list of its entries in the order in which they were laid; what a look-up and a store do to it. Over any program. -/
import Derived.Maps.OwnSet
import Derived.Maps.OwnOps
import Derived.WalkKit
import Derived.Test.YtdadnapfecmmdaaWs
namespace Go.Proofs.Ytdadnapfecmmdaa.Hm
set_option linter.unusedVariables false
set_option linter.unusedSimpArgs false
open Go.RowKit Go.MapKept Go.Proofs.YtdadnapfecmmdaaW.PrintWords
section plain
variable {α β : Type} [DecidableEq α]
def mget : List (α × β) → α → Option β
  | [], _ => none
  | p :: r, k => if p.1 = k then some p.2 else mget r k
def mput : List (α × β) → α → β → List (α × β)
  | [], k, v => [(k, v)]
  | p :: r, k, v => if p.1 = k then (k, v) :: r else p :: mput r k v
def mfind : List (α × β) → α → Option (Nat × β)
  | [], _ => none
  | p :: r, k => if p.1 = k then some (0, p.2) else (mfind r k).map fun q => (q.1 + 1, q.2)
theorem mfind_get (l : List (α × β)) (k : α) : (mfind l k).map (·.2) = mget l k := by
  induction l with
  | nil => rfl
  | cons p r ih =>
    unfold mfind mget
    by_cases h : p.1 = k
    · simp [h]
    · simp only [h, if_false]
      rw [← ih]
      cases mfind r k <;> rfl
theorem mget_put_same (l : List (α × β)) (k : α) (v : β) : mget (mput l k v) k = some v := by
  induction l with
  | nil => simp [mput, mget]
  | cons p r ih =>
    unfold mput
    by_cases h : p.1 = k
    · simp [h, mget]
    · simp [h, mget, ih]
theorem mget_put_other (l : List (α × β)) (k k' : α) (v : β) (hne : k' ≠ k) : mget (mput l k v) k' = mget l k' := by
  induction l with
  | nil => simp [mput, mget, Ne.symm hne]
  | cons p r ih =>
    unfold mput
    by_cases h : p.1 = k
    · subst h
      simp [mget, Ne.symm hne]
    · simp only [h, if_false]
      unfold mget
      by_cases h' : p.1 = k'
      · simp [h']
      · simp [h', ih]
theorem mput_length (l : List (α × β)) (k : α) (v : β) : (mput l k v).length ≤ l.length + 1 := by
  induction l with
  | nil => simp [mput]
  | cons p r ih =>
    unfold mput
    by_cases h : p.1 = k
    · simp [h]
    · simp [h, ih]
end plain

variable {α β : Type} {P : Program} {K E T : TypeId} {d : TypeDesc} {kd : α → Value} {vd : β → Value}
/-- How the keys stand as values. -/
structure KeyEnc (d : TypeDesc) (kd : α → Value) : Prop where
  key : ∀ x, IsKey d (kd x)
  inj : ∀ x y, kd x = kd y → x = y
  bits : ∀ x, Instr.sameBits 10000 (kd x) (kd x) = true
def MapIs (w : World) (b : Nat) (kd : α → Value) (vd : β → Value) (l : List (α × β)) : Prop :=
  ∃ es clock, w.heap[b]? = some (.map es clock) ∧ es.toList.map (fun e => (e.key, e.val)) = l.map fun p => (kd p.1, vd p.2)
theorem MapIs.lt {w : World} {b : Nat} {l : List (α × β)} (h : MapIs w b kd vd l) : b < w.heap.size := by
  obtain ⟨es, clock, hb, _⟩ := h
  exact (Array.getElem?_eq_some_iff.1 hb).1
theorem MapIs.made (w : World) (kd : α → Value) (vd : β → Value) : MapIs (w.alloc (.map #[] 0)) w.heap.size kd vd ([] : List (α × β)) :=
  ⟨#[], 0, heap_alloc_new w _, rfl⟩
theorem MapIs.move {w w1 : World} {b : Nat} {l : List (α × β)} (h : MapIs w b kd vd l) (hm : w1.heap[b]? = w.heap[b]?) : MapIs w1 b kd vd l := by
  obtain ⟨es, clock, hb, he⟩ := h
  exact ⟨es, clock, hm.trans hb, he⟩
theorem MapIs.below {w w1 : World} {b : Nat} {l : List (α × β)} (h : MapIs w b kd vd l) (hb : Below w.heap.size w w1) : MapIs w1 b kd vd l := h.move (hb.block b h.lt)
theorem MapIs.alloc {w : World} {b : Nat} {l : List (α × β)} (h : MapIs w b kd vd l) (o : Obj) : MapIs (w.alloc o) b kd vd l := h.below ((Below.refl _ _).alloc (Nat.le_refl _) o)
theorem MapIs.setCell {w : World} {b : Nat} {l : List (α × β)} (h : MapIs w b kd vd l) (a : Addr) (v : Value) (hne : b ≠ a.block) : MapIs (w.setCell a v) b kd vd l := h.move (Below.heap_setCell w a v b hne)
theorem MapIs.cells_ne {w : World} {b g : Nat} {l : List (α × β)} {cs : Array Value} {t : TypeId} {fr : Nat × Nat} (h : MapIs w b kd vd l) (hg : w.heap[g]? = some (.cells cs t fr)) : b ≠ g := by
  rintro rfl
  obtain ⟨es, clock, hb, _⟩ := h
  rw [hb] at hg
  cases hg

variable [DecidableEq α]
theorem find_of (hk : KeyEnc d kd) (k : α) : ∀ (es : List MapEntry) (l : List (α × β)) (i : Nat), es.map (fun e => (e.key, e.val)) = l.map (fun p => (kd p.1, vd p.2)) →
    Instr.findNow d (kd k) es i = some ((mfind l k).map fun q => (i + q.1, vd q.2))
  | [], [], _, _ => rfl
  | [], _ :: _, _, h => by simp at h
  | _ :: _, [], _, h => by simp at h
  | e :: es, p :: l, i, h => by
    simp only [List.map_cons, List.cons.injEq, Prod.mk.injEq] at h
    obtain ⟨⟨hk1, hv1⟩, hr⟩ := h
    have ih := find_of hk k es l (i + 1) hr
    obtain ⟨r, hr1, hiff⟩ := sameNow_of_keys (hk.key k) (hk1 ▸ hk.key p.1 : IsKey d e.key)
    unfold Instr.findNow mfind
    rw [hr1]
    by_cases hp : p.1 = k
    · have : r = true := hiff.2 (by rw [hk1, hp])
      subst this
      simp [hp, hv1]
    · have : r = false := by
        cases r with
        | false => rfl
        | true => exact absurd (hk.inj _ _ ((hiff.1 rfl).trans hk1)).symm hp
      subst this
      simp only [ih, hp, if_false]
      cases mfind l k with
      | none => rfl
      | some q =>
        simp only [Option.map_some, Option.some.injEq, Prod.mk.injEq, and_true]
        omega
theorem mfind_put {β : Type} (l : List (α × β)) (k : α) (v : β) : (mfind l k = none ∧ mput l k v = l ++ [(k, v)]) ∨ ∃ j u, mfind l k = some (j, u) ∧ j < l.length ∧ l[j]? = some (k, u) ∧ mput l k v = l.set j (k, v) := by
  induction l with
  | nil => exact .inl ⟨rfl, rfl⟩
  | cons p r ih =>
    unfold mfind mput
    by_cases h : p.1 = k
    · exact .inr ⟨0, p.2, by simp [h], by simp, by simp [← h], by simp [h]⟩
    · rcases ih with ⟨h1, h2⟩ | ⟨j, u, h1, h2, h3, h4⟩
      · exact .inl ⟨by simp [h, h1], by simp [h, h2]⟩
      · exact .inr ⟨j + 1, u, by simp [h, h1], by simpa using h2, by simpa using h3, by simp [h, h4]⟩

/-- 'm[k]'. -/
theorem MapIs.look {w : World} {b : Nat} {l : List (α × β)} (h : MapIs w b kd vd l) (hT : P.underlying T = some (.map K E)) (hK : P.underlying K = some d) (hk : KeyEnc d kd) {z : Value} (hz : (zeroValue E).run P w = .ok z w) (k : α) :
    (Instr.lookup T (.map (some b)) (kd k) false).run P w = .ok ((mget l k).elim z vd) w := by
  obtain ⟨es, clock, hb, he⟩ := h
  have hf := find_of (β := β) (vd := vd) hk k es.toList l 0 he
  have hrun := run_findKey (w := w) hK hf
  rw [← mfind_get]
  cases hm : mfind l k with
  | none =>
    rw [hm] at hrun
    simp [Instr.lookup, run_underlying hT, MapKept.run_getObj_map hb, run_checkKey hK (hk.key k), hrun, hz, Result.andThen]
  | some q =>
    rw [hm] at hrun
    simp [Instr.lookup, run_underlying hT, MapKept.run_getObj_map hb, run_checkKey hK (hk.key k), hrun, Result.andThen]
/-- 'v, ok := m[k]'. -/
theorem MapIs.look_ok {w : World} {b : Nat} {l : List (α × β)} (h : MapIs w b kd vd l) (hT : P.underlying T = some (.map K E)) (hK : P.underlying K = some d) (hk : KeyEnc d kd) {z : Value} (hz : (zeroValue E).run P w = .ok z w) (k : α) :
    (Instr.lookup T (.map (some b)) (kd k) true).run P w = .ok (.tuple #[((mget l k).elim z vd), .bool (mget l k).isSome]) w := by
  obtain ⟨es, clock, hb, he⟩ := h
  have hf := find_of (β := β) (vd := vd) hk k es.toList l 0 he
  have hrun := run_findKey (w := w) hK hf
  rw [← mfind_get]
  cases hm : mfind l k with
  | none =>
    rw [hm] at hrun
    simp [Instr.lookup, run_underlying hT, MapKept.run_getObj_map hb, run_checkKey hK (hk.key k), hrun, hz, Result.andThen]
  | some q =>
    rw [hm] at hrun
    simp [Instr.lookup, run_underlying hT, MapKept.run_getObj_map hb, run_checkKey hK (hk.key k), hrun, Result.andThen]
/-- 'm[k] = v'. -/
theorem MapIs.store {w : World} {b : Nat} {l : List (α × β)} (h : MapIs w b kd vd l) (hT : P.underlying T = some (.map K E)) (hK : P.underlying K = some d) (hk : KeyEnc d kd) (k : α) (v : β) :
    ∃ w1, (Instr.mapUpdate T (.map (some b)) (kd k) (vd v)).run P w = .ok () w1 ∧ MapIs w1 b kd vd (mput l k v) ∧ w.grownBy w1 (some b) := by
  obtain ⟨es, clock, hb, he⟩ := h
  have hf := find_of (β := β) (vd := vd) hk k es.toList l 0 he
  have hrun := run_findKey (w := w) hK hf
  have hgr : ∀ o : Obj, w.grownBy { w with heap := w.heap.setIfInBounds b o } (some b) := fun o =>
    ⟨rfl, rfl, rfl, by simp, fun i hi hne => by
      have : i ≠ b := fun e => hne (by rw [e])
      exact (heap_set (o' := o) hb).2 i this⟩
  rcases mfind_put l k v with ⟨h1, h2⟩ | ⟨j, u, h1, h2, h3, h4⟩
  · rw [h1] at hrun
    refine ⟨_, by simp [Instr.mapUpdate, run_underlying hT, MapKept.run_getObj_map hb, run_checkKey hK (hk.key k), hrun, MapKept.run_setObj_map _ hb, Result.andThen]; rfl, ⟨_, _, (heap_set hb).1, ?_⟩, hgr _⟩
    rw [h2]
    simp [he]
  · rw [h1] at hrun
    have hlen : es.size = l.length := by have := congrArg List.length he; simpa using this
    have hj : j < es.size := by omega
    have hel : (es.toList.map (fun e => (e.key, e.val)))[j]? = some (kd k, vd u) := by rw [he]; simp [h3]
    have hkey : es[j].key = kd k := by
      simp [hj] at hel
      exact hel.1
    have hes : es[j]? = some es[j] := by simp [hj]
    refine ⟨_, by simp [Instr.mapUpdate, run_underlying hT, MapKept.run_getObj_map hb, run_checkKey hK (hk.key k), hrun, MapKept.run_setObj_map _ hb, Result.andThen, hes, Instr.keyThatStays, hkey, hk.bits]; rfl, ⟨_, _, (heap_set hb).1, ?_⟩, hgr _⟩
    rw [h4]
    simp only [Array.toList_modify, List.map_set, ← he]
    apply List.ext_getElem?
    intro i
    simp only [List.getElem?_map, List.getElem?_modify, List.getElem?_set, List.length_map, Array.length_toList]
    by_cases hij : j = i
    · subst hij
      simp [hj]
    · simp [hij]

section
variable {ops : Array Oper} {rest : List Oper} {o : Oper} {a : Act} {Q : Exit → Act → World → Prop} {w : World}
/-- 'm[k] = v' at the operation. -/
theorem wp_store (hg : o.guard = none) (m x v : Operand) (hop : o.op = Op.mapUpdate T m x v) (hT : P.underlying T = some (.map K E)) (hK : P.underlying K = some d) (hk : KeyEnc d kd)
    {b : Nat} {l : List (α × β)} (h : MapIs w b kd vd l) (hm : a.eval m = .map (some b)) (k : α) (u : β) (hx : a.eval x = kd k) (hv : a.eval v = vd u)
    (hK1 : ∀ w1, MapIs w1 b kd vd (mput l k u) → w.grownBy w1 (some b) → wpList P ops Q rest (a.put o.dst undef) w1) : wpList P ops Q (o :: rest) a w := by
  refine wpList_plain hg fun K' hK' => ?_
  obtain ⟨w', hrun, r1, r2⟩ := h.store (P := P) hT hK hk k u
  unfold Oper.wp
  simp [execOp, hop, hm, hx, hv, hrun, Result.andThen]
  exact hK' _ _ (hK1 w' r1 r2)
/-- 'm[k]' at the operation. -/
theorem wp_look (hg : o.guard = none) (m x : Operand) (hop : o.op = Op.lookup T m x false) (hT : P.underlying T = some (.map K E)) (hK : P.underlying K = some d) (hk : KeyEnc d kd)
    {b : Nat} {l : List (α × β)} (h : MapIs w b kd vd l) (hm : a.eval m = .map (some b)) (k : α) (hx : a.eval x = kd k) {z : Value} (hz : (zeroValue E).run P w = .ok z w)
    (hK1 : wpList P ops Q rest (a.put o.dst ((mget l k).elim z vd)) w) : wpList P ops Q (o :: rest) a w := by
  refine wpList_plain hg fun K' hK' => ?_
  have hrun := h.look (P := P) hT hK hk hz k
  unfold Oper.wp
  simp [execOp, hop, hm, hx, hrun, Result.andThen]
  exact hK' _ _ hK1
/-- 'v, ok := m[k]' at the operation. -/
theorem wp_look_ok (hg : o.guard = none) (m x : Operand) (hop : o.op = Op.lookup T m x true) (hT : P.underlying T = some (.map K E)) (hK : P.underlying K = some d) (hk : KeyEnc d kd)
    {b : Nat} {l : List (α × β)} (h : MapIs w b kd vd l) (hm : a.eval m = .map (some b)) (k : α) (hx : a.eval x = kd k) {z : Value} (hz : (zeroValue E).run P w = .ok z w)
    (hK1 : wpList P ops Q rest (a.put o.dst (.tuple #[((mget l k).elim z vd), .bool (mget l k).isSome])) w) : wpList P ops Q (o :: rest) a w := by
  refine wpList_plain hg fun K' hK' => ?_
  have hrun := h.look_ok (P := P) hT hK hk hz k
  unfold Oper.wp
  simp [execOp, hop, hm, hx, hrun, Result.andThen]
  exact hK' _ _ hK1
end
theorem enc_string : KeyEnc (α := ByteArray) .string Value.string := ⟨fun _ => by simp [IsKey], fun x y h => by simpa using h, fun x => by simp [Instr.sameBits, bytes_beq]⟩
theorem enc_int (k : IntKind) : KeyEnc (α := Int) (.int k) (Value.int k) := ⟨fun _ => by simp [IsKey], fun x y h => by simpa using h, fun x => by simp [Instr.sameBits]⟩
end Go.Proofs.Ytdadnapfecmmdaa.Hm
