/- Own walk over the closure 'begin' of simulate.Config.trace. -/
import Derived.Test.YtdadnapfecmmdaaHs
import Derived.Deep.DeepMust
namespace Go.Proofs.Ytdadnapfecmmdaa.P
set_option linter.unusedVariables false
set_option linter.unusedSimpArgs false
open Go.RowKit Go.Proofs.YtdadnapfecmmdaaW.PrintWords Go.Proofs.YtdadnapfecmmdaaW.PrintLast Go.Proofs.YtdadnapfecmmdaaW.PrintMore
abbrev svCells (x : S64) (A5 : Option Addr) (c5 : Nat) : Array Value := #[.string x.f0, .int .i64 x.f1, .int .i64 x.f2, .int .i64 x.f3, .int .i64 x.f4, .slice A5 x.f5.length c5]
set_option maxHeartbeats 4000000 in
set_option maxRecDepth 100000 in
theorem begin_calls (W w0 : World) (bsp bt base : Nat) (t : Int) (l : List Sp) (x : S64) (A5 : Option Addr) (c5 : Nat) (parent kind at_ : Int) (op ver : ByteArray)
    (hT : W.heap[bt]? = some (.cells #[.int .i64 t] 3 (0, 0))) (hS : SpR W bsp base l) (hbb : base ≤ bsp) (hlen : l.length < 1000) (hB : Below base w0 W) (hbase : base ≤ W.heap.size) :
    Calls Try.prog 85 #[.agg (svCells x A5 c5), .int .i64 parent, .int .i64 kind, .int .i64 at_, .string op, .string ver, .pointer (some ⟨bsp, 0, none⟩), .pointer (some ⟨bt, 0, none⟩)] W fun e w' =>
      e = .returned (.int .i64 ((l.length : Int) + 1)) ∧ SpR w' bsp base (l ++ [⟨t, (l.length : Int) + 1, parent, 0, x.f1, kind, x.f0, ver, op, at_, 0, false⟩]) ∧ KeepT W w' bsp ∧ Below base w0 w' := by
  obtain ⟨v, hv, hown⟩ := hS
  obtain ⟨A, cp, rfl⟩ := own_slice hown
  have qT : W.cell? ⟨bt, 0, none⟩ = some (.int .i64 t) := (blk_cell hT 0).trans rfl
  have qS : W.cell? ⟨bsp, 0, none⟩ = some (.slice A l.length cp) := (blk_cell hv 0).trans rfl
  have hlt1 := blk_lt hT
  have hlt2 := blk_lt hv
  have HV := Aside0.mk hv
  have HO := Aside0.mk hown
  have HB := Aside0.mk hB
  have HT := Aside0.mk hT
  have hne1 : bt ≠ W.heap.size := by omega
  have hne2 : bsp ≠ W.heap.size := by omega
  clear hv hown hB hT
  obtain ⟨f0, f1, f2, f3, f4, f5⟩ := x
  unfold svCells
  dsimp only
  generalize f5.length = n5
  have hneq : ∀ _ : Unit, some bsp ≠ (Value.slice A l.length cp).ownBlock := fun _ => own_ne HO.out HV.out (by decide)
  have hvb : ∀ o : Obj, (W.alloc o).heap[bsp]? = some (.cells #[.slice A l.length cp] 49 (0, 0)) := fun o => blk_alloc HV.out o
  have EO := Aside0.mk (spc_snoc l ⟨t, (l.length : Int) + 1, parent, 0, f1, kind, f0, ver, op, at_, 0, false⟩)
  go_enter Try.func85, Try.ntmps85
  go_wp2_with (at_builtin; go_must (refine print_append_cells (w0 := w0) base rfl _ _ 49 56 _ 14 168 rfl Try.underlying49 info56 rfl (by decide) (by decide) (.slice A l.length cp) l.length (spc l) [.int .i64 t, .int .i64 ((l.length : Int) + 1), .int .i64 parent, .int .i64 0, .int .i64 f1, .int .i64 kind, .string f0, .string ver, .string op, .int .i64 at_, .int .i64 0, .bool false, .slice none 0 0, .slice none 0 0] rfl ?c4 rfl ?c1 (HO.out.alloc _) (HB.out.alloc hbase _) ?c2 ?c3 ?_; (case c1 => intro u hu; simp at hu; rcases hu with rfl | rfl | rfl | rfl | rfl | rfl | rfl | rfl | rfl | rfl | rfl | rfl | rfl | rfl <;> rfl); (case c4 => show Value.slice (some ⟨W.heap.size + 1, 0, none⟩) 1 1 = _; simp); (case c2 => simp; omega); (case c3 => omega); intro v1 w1 hown1 hb1 hg1 hat1; obtain ⟨A1, cp1, rfl⟩ := own_slice hown1; have HW := Aside0.mk hown1; have HG := Aside0.mk hg1; have HB1 := Aside0.mk hb1; have hvv : w1.heap[bsp]? = some (.cells #[.slice A l.length cp] 49 (0, 0)) := hg1.block bsp (by simp; omega) (hneq ()) |>.trans (hvb _); have qv : w1.cell? ⟨bsp, 0, none⟩ = some (.slice A l.length cp) := (blk_cell hvv 0).trans rfl; have fv := blk_frozen hvv 0; have HVV := Aside0.mk hvv; clear hown1 hg1 hb1 hat1 hvv))
  go_ret
  have hne : some bsp ≠ (Value.slice A1 (l.length + 1) cp1).ownBlock := own_ne HW.out HVV.out (by decide)
  refine ⟨by rfl, ⟨.slice A1 (l.length + 1) cp1, ?_, ?_⟩, ?_, ?_⟩
  · have h := blk_set HVV.out 0 (.slice A1 (l.length + 1) cp1)
    simpa using h
  · rw [EO.out, List.length_append, List.length_singleton]
    exact own_setCell HW.out hne _
  · refine ((KeepT.of_below (below_alloc (Below.refl _ _) _) bsp).trans (KeepT.grown (HO.out.alloc _) HG.out)).trans ⟨by simp, fun i _ hi _ => Below.heap_setCell _ _ _ i hi⟩
  · exact HB1.out.setCell hbb _
end Go.Proofs.Ytdadnapfecmmdaa.P
