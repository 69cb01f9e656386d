/- The variables that the closures of simulate.Config.trace share. -/
import Derived.Test.YtdadnapfecmmdaaHp
namespace Go.Proofs.Ytdadnapfecmmdaa.P
set_option linter.unusedVariables false
set_option linter.unusedSimpArgs false
open Go.RowKit Go.Proofs.YtdadnapfecmmdaaW.PrintWords Go.Proofs.YtdadnapfecmmdaaW.PrintLast Go.Proofs.YtdadnapfecmmdaaW.PrintMore
open Go.Proofs.Ytdadnapfecmmdaa.Hm
abbrev pv (b : Nat) : Value := .pointer (some ⟨b, 0, none⟩)
/-- bs: services · bm: the map · bc: the configuration · bl: the slot · bb: begin · bt: the trace's id · bv: serve · g: spans. -/
structure EnvR (W : World) (bs bm bc bl bb bt bv g base : Nat) (c : Cfg) (p : CfgAt) (slot t : Int) (sm : List (ByteArray × SvV)) : Prop where
  s : W.heap[bs]? = some (.cells #[.map (some bm)] 156 (0, 0))
  m : MapIs W bm Value.string svVal sm
  c : W.heap[bc]? = some (.cells (c.cells p) 31 (0, 0))
  l : W.heap[bl]? = some (.cells #[.int .i64 slot] 3 (0, 0))
  b : W.heap[bb]? = some (.cells #[.func (.func 85) #[] #[pv g, pv bt]] 157 (0, 0))
  t : W.heap[bt]? = some (.cells #[.int .i64 t] 3 (0, 0))
  v : W.heap[bv]? = some (.cells #[.func (.func 86) #[] #[pv bs, pv bc, pv bl, pv bb, pv bt, pv bv, pv g]] 158 (0, 0))
  ns : bs ≠ g
  nm : bm ≠ g
  nc : bc ≠ g
  nl : bl ≠ g
  nb : bb ≠ g
  nt : bt ≠ g
  nv : bv ≠ g
  hg : base ≤ g
  hW : base ≤ W.heap.size
section
variable {W W' : World} {bs bm bc bl bb bt bv g base : Nat} {c : Cfg} {p : CfgAt} {slot t : Int} {sm : List (ByteArray × SvV)}
theorem EnvR.keep (h : EnvR W bs bm bc bl bb bt bv g base c p slot t sm) (k : KeepT W W' g) : EnvR W' bs bm bc bl bb bt bv g base c p slot t sm where
  s := k.cellsBlk h.s h.ns (by decide)
  m := by
    obtain ⟨es, cl, hb, he⟩ := h.m
    exact ⟨es, cl, k.blk hb h.nm (fun _ _ e => by cases e), he⟩
  c := k.cellsBlk h.c h.nc (by decide)
  l := k.cellsBlk h.l h.nl (by decide)
  b := k.cellsBlk h.b h.nb (by decide)
  t := k.cellsBlk h.t h.nt (by decide)
  v := k.cellsBlk h.v h.nv (by decide)
  ns := h.ns
  nm := h.nm
  nc := h.nc
  nl := h.nl
  nb := h.nb
  nt := h.nt
  nv := h.nv
  hg := h.hg
  hW := Nat.le_trans h.hW k.1
theorem SpR.below {l : List Sp} (h : SpR W g base l) (hb : Below W.heap.size W W') : SpR W' g base l := by
  obtain ⟨v, hv, ho⟩ := h
  exact ⟨v, (hb.block g (blk_lt hv)).trans hv, pw_own_below ho hb⟩
theorem SpR.lt {l : List Sp} (h : SpR W g base l) : g < W.heap.size := by
  obtain ⟨v, hv, _⟩ := h
  exact blk_lt hv
theorem setEnd_len (l : List Sp) (j : Nat) (en : Int) (err : Bool) : (setEnd l j en err).length = l.length := by simp [setEnd]
theorem setEnd_eq (l : List Sp) (j : Nat) (en : Int) (err : Bool) (hj : j < l.length) : setEnd l j en err = l.set j { l[j] with en := en, err := err } := by
  unfold setEnd
  apply List.ext_getElem?
  intro i
  rw [List.getElem?_modify, List.getElem?_set]
  by_cases h : j = i
  · subst h
    simp [hj]
  · simp [h]
/-- The two stores of 'spans[j].End, spans[j].Error = en, err'. -/
theorem SpR.stores {l : List Sp} {v : Value} {A : Addr} {cp : Nat} (hv : W.heap[g]? = some (.cells #[.slice (some A) l.length cp] 49 (0, 0))) (ho : W.ownsRow base 56 14 (.slice (some A) l.length cp) l.length (spc l)) (j : Nat) (hj : j < l.length) (en : Int) (err : Bool) :
    SpR ((W.setCell ⟨A.block, A.off + (j * 14 + 10), none⟩ (.int .i64 en)).setCell ⟨A.block, A.off + (j * 14 + 11), none⟩ (.bool err)) g base (setEnd l j en err) := by
  rcases ho.2 with ⟨h, _⟩ | ⟨r, cap, cur, h, hb, hr, h1, h2, h3, h4⟩
  · cases h
  · injection h with ha _ hc
    injection ha with ha
    subst ha
    subst hc
    simp only [Nat.zero_add]
    have hne : g ≠ r := fun e => by
      subst e
      rw [hv] at hr
      injection hr with hr
      injection hr with _ ht
      exact absurd ht (by decide)
    obtain ⟨o1, g1⟩ := ho.stored (j * 14 + 10) (.int .i64 en)
    obtain ⟨o2, g2⟩ := o1.stored (j * 14 + 11) (.bool err)
    rw [spc_set l j 10 (.int .i64 en) { l[j] with en := en } hj (by omega) rfl] at o1 o2
    rw [spc_set (l.set j { l[j] with en := en }) j 11 (.bool err) { l[j] with en := en, err := err } (by simpa using hj) (by omega) (by simp [Sp.cells])] at o2
    refine ⟨.slice (some ⟨r, 0, none⟩) l.length cp, ?_, ?_⟩
    · rw [Below.heap_setCell _ _ _ _ hne, Below.heap_setCell _ _ _ _ hne]
      exact hv
    · rw [setEnd_len, setEnd_eq l j en err hj]
      simpa using o2
end
end Go.Proofs.Ytdadnapfecmmdaa.P
