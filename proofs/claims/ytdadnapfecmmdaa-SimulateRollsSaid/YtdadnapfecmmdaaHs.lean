/- Own words on the row of spans that simulate makes, and the walk over its closure 'begin'. -/
import Derived.Test.YtdadnapfecmmdaaHb
namespace Go.Proofs.Ytdadnapfecmmdaa.P
set_option linter.unusedVariables false
set_option linter.unusedSimpArgs false
open Go.RowKit Go.Proofs.YtdadnapfecmmdaaW.PrintWords Go.Proofs.YtdadnapfecmmdaaW.PrintLast Go.Proofs.YtdadnapfecmmdaaW.PrintMore
/-- A span without attributes and links. -/
structure Sp where
  tr : Int
  id : Int
  par : Int
  rev : Int
  clk : Int
  kind : Int
  svc : ByteArray
  ver : ByteArray
  op : ByteArray
  st : Int
  en : Int
  err : Bool
def Sp.cells (s : Sp) : List Value := [.int .i64 s.tr, .int .i64 s.id, .int .i64 s.par, .int .i64 s.rev, .int .i64 s.clk, .int .i64 s.kind, .string s.svc, .string s.ver, .string s.op, .int .i64 s.st, .int .i64 s.en, .bool s.err, .slice none 0 0, .slice none 0 0]
theorem Sp.cells_len (s : Sp) : s.cells.length = 14 := rfl
def spc : List Sp → List Value
  | [] => []
  | s :: r => s.cells ++ spc r
theorem spc_len (l : List Sp) : (spc l).length = l.length * 14 := by
  induction l with
  | nil => rfl
  | cons s r ih => simp only [spc, List.length_append, Sp.cells_len, ih, List.length_cons]; omega
theorem spc_snoc (l : List Sp) (s : Sp) : spc (l ++ [s]) = spc l ++ s.cells := by
  induction l with
  | nil => simp [spc]
  | cons a r ih => simp [spc, ih]
theorem spc_get (l : List Sp) (j i : Nat) (hj : j < l.length) (hi : i < 14) : (spc l)[j * 14 + i]? = (l[j].cells)[i]? := by
  induction l generalizing j with
  | nil => simp at hj
  | cons a r ih =>
    cases j with
    | zero =>
      simp only [spc, Nat.zero_mul, Nat.zero_add, List.getElem_cons_zero]
      rw [List.getElem?_append_left (by rw [Sp.cells_len]; exact hi)]
    | succ j =>
      simp only [spc, List.getElem_cons_succ]
      rw [List.getElem?_append_right (by rw [Sp.cells_len]; omega), Sp.cells_len, show (j + 1) * 14 + i - 14 = j * 14 + i from by omega]
      exact ih j (by simpa using hj)
theorem spc_set (l : List Sp) (j i : Nat) (u : Value) (s : Sp) (hj : j < l.length) (hi : i < 14) (hs : (l[j].cells).set i u = s.cells) : (spc l).set (j * 14 + i) u = spc (l.set j s) := by
  induction l generalizing j with
  | nil => simp at hj
  | cons a r ih =>
    cases j with
    | zero =>
      simp only [spc, Nat.zero_mul, Nat.zero_add, List.set_cons_zero]
      rw [List.set_append_left _ _ (by rw [Sp.cells_len]; exact hi)]
      simp only [List.getElem_cons_zero] at hs
      rw [hs]
    | succ j =>
      simp only [spc, List.set_cons_succ]
      rw [List.set_append_right _ _ (by rw [Sp.cells_len]; omega), Sp.cells_len, show (j + 1) * 14 + i - 14 = j * 14 + i from by omega]
      rw [ih j (by simpa using hj) (by simpa using hs)]
/-- The variable 'spans' at block g, and the row that it holds. -/
def SpR (W : World) (g base : Nat) (l : List Sp) : Prop := ∃ v, W.heap[g]? = some (.cells #[v] 49 (0, 0)) ∧ W.ownsRow base 56 14 v l.length (spc l)
/-- What lies in W stays, but for block g and rows of spans. -/
def KeepT (W W' : World) (g : Nat) : Prop := W.heap.size ≤ W'.heap.size ∧ ∀ i, i < W.heap.size → i ≠ g → (∀ cs fr, W.heap[i]? ≠ some (.cells cs 56 fr)) → W'.heap[i]? = W.heap[i]?
theorem KeepT.refl (W : World) (g : Nat) : KeepT W W g := ⟨Nat.le_refl _, fun _ _ _ _ => rfl⟩
theorem KeepT.trans {W W1 W2 : World} {g : Nat} (h : KeepT W W1 g) (k : KeepT W1 W2 g) : KeepT W W2 g :=
  ⟨Nat.le_trans h.1 k.1, fun i hi hg hn => by
    have h1 := h.2 i hi hg hn
    rw [k.2 i (Nat.lt_of_lt_of_le hi h.1) hg (fun cs fr => by rw [h1]; exact hn cs fr), h1]⟩
theorem KeepT.of_below {W W1 : World} (h : Below W.heap.size W W1) (g : Nat) : KeepT W W1 g := ⟨h.size, fun i hi _ _ => h.block i hi⟩
theorem KeepT.blk {W W' : World} {g b : Nat} {o : Obj} (h : KeepT W W' g) (hb : W.heap[b]? = some o) (hg : b ≠ g) (ho : ∀ cs fr, o ≠ .cells cs 56 fr) : W'.heap[b]? = some o :=
  (h.2 b (blk_lt hb) hg (fun cs fr => by rw [hb]; intro e; exact ho cs fr (Option.some.inj e))).trans hb
theorem KeepT.cellsBlk {W W' : World} {g b : Nat} {cs : Array Value} {t : TypeId} (h : KeepT W W' g) (hb : W.heap[b]? = some (.cells cs t (0, 0))) (hg : b ≠ g) (ht : t ≠ 56) : W'.heap[b]? = some (.cells cs t (0, 0)) :=
  h.blk hb hg (fun _ _ e => by injection e with _ e2; exact ht e2)
theorem KeepT.grown {W W' : World} {g : Nat} {v : Value} {base n : Nat} {xs : List Value} (hv : W.ownsRow base 56 14 v n xs) (h : W.grownBy W' v.ownBlock) : KeepT W W' g :=
  ⟨h.size, fun i hi _ hn => h.block i hi (fun e => by
    obtain ⟨cells, hc⟩ := own_typed hv i e.symm
    exact hn cells (0, 0) hc)⟩
theorem info56 : (Try.prog.info? 56).map (fun i => (i.zero, i.size, i.bytes)) = some (some (.agg #[.int .i64 0, .int .i64 0, .int .i64 0, .int .i64 0, .int .i64 0, .int .i64 0, .string ⟨#[]⟩, .string ⟨#[]⟩, .string ⟨#[]⟩, .int .i64 0, .int .i64 0, .bool false, .slice none 0 0, .slice none 0 0]), 14, 168) := by kernel_rfl
end Go.Proofs.Ytdadnapfecmmdaa.P
