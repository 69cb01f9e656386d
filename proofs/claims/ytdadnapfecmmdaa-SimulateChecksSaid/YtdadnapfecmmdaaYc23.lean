/- Own texts of a proof about layer 55's simulate (merged): Kl. -/
import Derived.Test.YtdadnapfecmmdaaYc3
import Derived.WalkKit
import Derived.ProofKit
import Derived.OpenShut
import Derived.ChangeOld
import Derived.Deep.Slices
namespace Go.Proofs.Ytdadnapfecmmdaa.P
set_option linter.unusedVariables false
set_option linter.unusedSimpArgs false
open Go.RowKit Go.Proofs.YtdadnapfecmmdaaW.PrintWords Go.Proofs.YtdadnapfecmmdaaW.PrintLast Go.Proofs.YtdadnapfecmmdaaW.PrintMore
section
variable {H : Type} {enc : TypeId × Value → H} {w : World} {base : Nat} {sp : Nat → Bool} {held : Bool}
theorem kslice {α : Type} (d : Kd α) (y0 : α) {t e : TypeId} {fuel : Nat} {cs : List Value} {x : DataW H × List MemPlace} (hs : Try.prog.underlying t = some (.slice e)) (hsz : d.sz = Try.prog.cellsOf e)
    (hk : ∀ (fuel : Nat) (cs : List Value) (x : DataW H × List MemPlace), DataW.trod enc Try.prog w base sp held fuel e cs = some x → ∃ y : α, d.K w y cs ∧ cs.length = Try.prog.cellsOf e)
    (h : DataW.trod enc Try.prog w base sp held fuel t cs = some x) : ∃ A c, ∃ l : List α, cs = [.slice A l.length c] ∧ l.length ≤ c ∧ d.C w A l.length l := by
  rcases Go.Deep.open_slice hs h with ⟨rfl, _⟩ | ⟨a, len, cap, m, n, D, Pl, rfl, hb, hle, hcap, hm, _, hel⟩
  · exact ⟨none, 0, [], rfl, Nat.le_refl _, ⟨rfl, by simp, fun h => absurd h (by simp)⟩⟩
  · have key : ∀ j : Nat, ∃ yc : α × List Value, j < len → d.K w yc.1 yc.2 ∧ yc.2.length = Try.prog.cellsOf e ∧ ∀ i u, yc.2[i]? = some u → w.cell? (a.add (j * Try.prog.cellsOf e + i)) = some u := fun j => by
      by_cases hj : j < len
      · obtain ⟨cs', h1, h2⟩ := hel j (by rw [hm]; split <;> omega)
        obtain ⟨y, hy, hl⟩ := hk _ _ _ h2
        refine ⟨(y, cs'), fun _ => ⟨hy, hl, fun i u hu => ?_⟩⟩
        obtain ⟨_, hlen, hcell⟩ := World.cells?_some h1
        have hi : i < Try.prog.cellsOf e := by
          have := (List.getElem?_eq_some_iff.mp hu).1
          dsimp only at this
          omega
        rw [← Go.Deep.add_add, hcell i hi]
        exact hu
      · exact ⟨(y0, []), fun h => absurd h hj⟩
    obtain ⟨f, hf⟩ := Classical.axiomOfChoice key
    have hll : ((List.range len).map fun j => (f j).1).length = len := by simp
    refine ⟨some a, cap, (List.range len).map fun j => (f j).1, by rw [hll], by rw [hll]; exact hle, ?_⟩
    rw [hll]
    refine ⟨hll, by have : maxLen ≤ 9223372036854775807 := by decide
                    omega, fun _ => ⟨a, rfl, fun j y hy => ?_⟩⟩
    rw [List.getElem?_map] at hy
    obtain ⟨j', hj', rfl⟩ := Option.map_eq_some_iff.mp hy
    obtain ⟨hjl, e⟩ := List.getElem?_eq_some_iff.mp hj'
    rw [List.getElem_range] at e
    subst e
    rw [List.length_range] at hjl
    obtain ⟨g1, g2, g3⟩ := hf j hjl
    exact ⟨(f j).2, by rw [g2, hsz], g1, fun i u hu => by rw [hsz]; exact g3 i u hu⟩
theorem flds {e : TypeId} {fs : Array Field} {fuel : Nat} {cs : List Value} {x : DataW H × List MemPlace} (ht : Try.prog.underlying e = some (.struct fs)) (h : DataW.trod enc Try.prog w base sp held fuel e cs = some x) :
    cs.length = Try.prog.cellsOf e ∧ ∃ n, ∀ (i : Nat) (f : Field), fs[i]? = some f → ∃ y, DataW.trod enc Try.prog w base sp held n f.type ((cs.drop f.offset).take (Try.prog.cellsOf f.type)) = some y := by
  obtain ⟨xs, n, _, _, hl, hn, hf⟩ := DataW.trod_struct ht h
  refine ⟨hl, n, fun i f hi => ?_⟩
  have h1 : i < fs.size := by
    obtain ⟨h1, _⟩ := Array.getElem?_eq_some_iff.mp hi
    exact h1
  exact ⟨xs[i]'(by omega), by rw [hf i f hi, List.getElem?_eq_getElem (by omega)]⟩
theorem oneI {n : Nat} {c : Value} {y : DataW H × List MemPlace} (g : DataW.trod enc Try.prog w base sp held n 3 [c] = some y) : ∃ m : Int, c = .int .i64 m := by
  obtain ⟨m, e, _⟩ := DataW.trod_int Try.underlying3 g
  simp at e
  exact ⟨m, e⟩
theorem oneS {n : Nat} {c : Value} {y : DataW H × List MemPlace} (g : DataW.trod enc Try.prog w base sp held n 9 [c] = some y) : ∃ s : ByteArray, c = .string s := by
  obtain ⟨s, e, _⟩ := DataW.trod_string Try.underlying9 g
  simp at e
  exact ⟨s, e⟩
theorem k3 : Try.prog.cellsOf 3 = 1 := by kernel_rfl
theorem k9 : Try.prog.cellsOf 9 = 1 := by kernel_rfl
set_option maxRecDepth 100000 in
theorem open29 {fuel : Nat} {cs : List Value} {x : DataW H × List MemPlace} (h : DataW.trod enc Try.prog w base sp held fuel 29 cs = some x) : ∃ y : S29, cs = [.int .i64 y.f0, .int .i64 y.f1] := by
  obtain ⟨hl, n, hf⟩ := flds Try.underlying29 h
  have hc : Try.prog.cellsOf 29 = 2 := by kernel_rfl
  rw [hc] at hl
  obtain ⟨c0, c1, rfl⟩ : ∃ c0 c1, cs = [c0, c1] := by
    match cs, hl with
    | [c0, c1], _ => exact ⟨c0, c1, rfl⟩
  obtain ⟨y0, g0⟩ := hf 0 _ rfl
  have kc0 : Try.prog.cellsOf 3 = 1 := by kernel_rfl
  replace g0 : DataW.trod enc Try.prog w base sp held n 3 ((([c0, c1] : List Value).drop 0).take (Try.prog.cellsOf 3)) = some y0 := g0
  rw [kc0] at g0
  replace g0 : DataW.trod enc Try.prog w base sp held n 3 [c0] = some y0 := g0
  obtain ⟨y1, g1⟩ := hf 1 _ rfl
  have kc1 : Try.prog.cellsOf 3 = 1 := by kernel_rfl
  replace g1 : DataW.trod enc Try.prog w base sp held n 3 ((([c0, c1] : List Value).drop 1).take (Try.prog.cellsOf 3)) = some y1 := g1
  rw [kc1] at g1
  replace g1 : DataW.trod enc Try.prog w base sp held n 3 [c1] = some y1 := g1
  obtain ⟨m0, rfl⟩ := oneI g0
  obtain ⟨m1, rfl⟩ := oneI g1
  exact ⟨⟨m0, m1⟩, rfl⟩
set_option maxRecDepth 100000 in
theorem open91 {fuel : Nat} {cs : List Value} {x : DataW H × List MemPlace} (h : DataW.trod enc Try.prog w base sp held fuel 91 cs = some x) : ∃ y : S91, k91.K w y cs ∧ cs.length = Try.prog.cellsOf 91 := by
  obtain ⟨hl, n, hf⟩ := flds Try.underlying91 h
  have hc : Try.prog.cellsOf 91 = 2 := by kernel_rfl
  rw [hc] at hl
  obtain ⟨c0, c1, rfl⟩ : ∃ c0 c1, cs = [c0, c1] := by
    match cs, hl with
    | [c0, c1], _ => exact ⟨c0, c1, rfl⟩
  obtain ⟨y0, g0⟩ := hf 0 _ rfl
  have kc0 : Try.prog.cellsOf 3 = 1 := by kernel_rfl
  replace g0 : DataW.trod enc Try.prog w base sp held n 3 ((([c0, c1] : List Value).drop 0).take (Try.prog.cellsOf 3)) = some y0 := g0
  rw [kc0] at g0
  replace g0 : DataW.trod enc Try.prog w base sp held n 3 [c0] = some y0 := g0
  obtain ⟨y1, g1⟩ := hf 1 _ rfl
  have kc1 : Try.prog.cellsOf 3 = 1 := by kernel_rfl
  replace g1 : DataW.trod enc Try.prog w base sp held n 3 ((([c0, c1] : List Value).drop 1).take (Try.prog.cellsOf 3)) = some y1 := g1
  rw [kc1] at g1
  replace g1 : DataW.trod enc Try.prog w base sp held n 3 [c1] = some y1 := g1
  obtain ⟨m0, rfl⟩ := oneI g0
  obtain ⟨m1, rfl⟩ := oneI g1
  exact ⟨⟨m0, m1⟩, k91_mk w ⟨m0, m1⟩, by rw [hc]; rfl⟩
set_option maxRecDepth 100000 in
theorem open100 {fuel : Nat} {cs : List Value} {x : DataW H × List MemPlace} (h : DataW.trod enc Try.prog w base sp held fuel 100 cs = some x) : ∃ y : S100, k100.K w y cs ∧ cs.length = Try.prog.cellsOf 100 := by
  obtain ⟨hl, n, hf⟩ := flds Try.underlying100 h
  have hc : Try.prog.cellsOf 100 = 6 := by kernel_rfl
  rw [hc] at hl
  obtain ⟨c0, c1, c2, c3, c4, c5, rfl⟩ : ∃ c0 c1 c2 c3 c4 c5, cs = [c0, c1, c2, c3, c4, c5] := by
    match cs, hl with
    | [c0, c1, c2, c3, c4, c5], _ => exact ⟨c0, c1, c2, c3, c4, c5, rfl⟩
  obtain ⟨y0, g0⟩ := hf 0 _ rfl
  have kc0 : Try.prog.cellsOf 3 = 1 := by kernel_rfl
  replace g0 : DataW.trod enc Try.prog w base sp held n 3 ((([c0, c1, c2, c3, c4, c5] : List Value).drop 0).take (Try.prog.cellsOf 3)) = some y0 := g0
  rw [kc0] at g0
  replace g0 : DataW.trod enc Try.prog w base sp held n 3 [c0] = some y0 := g0
  obtain ⟨y1, g1⟩ := hf 1 _ rfl
  have kc1 : Try.prog.cellsOf 3 = 1 := by kernel_rfl
  replace g1 : DataW.trod enc Try.prog w base sp held n 3 ((([c0, c1, c2, c3, c4, c5] : List Value).drop 1).take (Try.prog.cellsOf 3)) = some y1 := g1
  rw [kc1] at g1
  replace g1 : DataW.trod enc Try.prog w base sp held n 3 [c1] = some y1 := g1
  obtain ⟨y2, g2⟩ := hf 2 _ rfl
  have kc2 : Try.prog.cellsOf 3 = 1 := by kernel_rfl
  replace g2 : DataW.trod enc Try.prog w base sp held n 3 ((([c0, c1, c2, c3, c4, c5] : List Value).drop 2).take (Try.prog.cellsOf 3)) = some y2 := g2
  rw [kc2] at g2
  replace g2 : DataW.trod enc Try.prog w base sp held n 3 [c2] = some y2 := g2
  obtain ⟨y3, g3⟩ := hf 3 _ rfl
  have kc3 : Try.prog.cellsOf 9 = 1 := by kernel_rfl
  replace g3 : DataW.trod enc Try.prog w base sp held n 9 ((([c0, c1, c2, c3, c4, c5] : List Value).drop 3).take (Try.prog.cellsOf 9)) = some y3 := g3
  rw [kc3] at g3
  replace g3 : DataW.trod enc Try.prog w base sp held n 9 [c3] = some y3 := g3
  obtain ⟨y4, g4⟩ := hf 4 _ rfl
  have kc4 : Try.prog.cellsOf 9 = 1 := by kernel_rfl
  replace g4 : DataW.trod enc Try.prog w base sp held n 9 ((([c0, c1, c2, c3, c4, c5] : List Value).drop 4).take (Try.prog.cellsOf 9)) = some y4 := g4
  rw [kc4] at g4
  replace g4 : DataW.trod enc Try.prog w base sp held n 9 [c4] = some y4 := g4
  obtain ⟨y5, g5⟩ := hf 5 _ rfl
  have kc5 : Try.prog.cellsOf 9 = 1 := by kernel_rfl
  replace g5 : DataW.trod enc Try.prog w base sp held n 9 ((([c0, c1, c2, c3, c4, c5] : List Value).drop 5).take (Try.prog.cellsOf 9)) = some y5 := g5
  rw [kc5] at g5
  replace g5 : DataW.trod enc Try.prog w base sp held n 9 [c5] = some y5 := g5
  obtain ⟨m0, rfl⟩ := oneI g0
  obtain ⟨m1, rfl⟩ := oneI g1
  obtain ⟨m2, rfl⟩ := oneI g2
  obtain ⟨m3, rfl⟩ := oneS g3
  obtain ⟨m4, rfl⟩ := oneS g4
  obtain ⟨m5, rfl⟩ := oneS g5
  exact ⟨⟨m0, m1, m2, m3, m4, m5⟩, k100_mk w ⟨m0, m1, m2, m3, m4, m5⟩, by rw [hc]; rfl⟩
set_option maxRecDepth 100000 in
theorem open61 {fuel : Nat} {cs : List Value} {x : DataW H × List MemPlace} (h : DataW.trod enc Try.prog w base sp held fuel 61 cs = some x) : ∃ y : S61, k61.K w y cs ∧ cs.length = Try.prog.cellsOf 61 := by
  obtain ⟨hl, n, hf⟩ := flds Try.underlying61 h
  have hc : Try.prog.cellsOf 61 = 6 := by kernel_rfl
  rw [hc] at hl
  obtain ⟨c0, c1, c2, c3, c4, c5, rfl⟩ : ∃ c0 c1 c2 c3 c4 c5, cs = [c0, c1, c2, c3, c4, c5] := by
    match cs, hl with
    | [c0, c1, c2, c3, c4, c5], _ => exact ⟨c0, c1, c2, c3, c4, c5, rfl⟩
  obtain ⟨y0, g0⟩ := hf 0 _ rfl
  have kc0 : Try.prog.cellsOf 9 = 1 := by kernel_rfl
  replace g0 : DataW.trod enc Try.prog w base sp held n 9 ((([c0, c1, c2, c3, c4, c5] : List Value).drop 0).take (Try.prog.cellsOf 9)) = some y0 := g0
  rw [kc0] at g0
  replace g0 : DataW.trod enc Try.prog w base sp held n 9 [c0] = some y0 := g0
  obtain ⟨y1, g1⟩ := hf 1 _ rfl
  have kc1 : Try.prog.cellsOf 9 = 1 := by kernel_rfl
  replace g1 : DataW.trod enc Try.prog w base sp held n 9 ((([c0, c1, c2, c3, c4, c5] : List Value).drop 1).take (Try.prog.cellsOf 9)) = some y1 := g1
  rw [kc1] at g1
  replace g1 : DataW.trod enc Try.prog w base sp held n 9 [c1] = some y1 := g1
  obtain ⟨y2, g2⟩ := hf 2 _ rfl
  have kc2 : Try.prog.cellsOf 29 = 2 := by kernel_rfl
  replace g2 : DataW.trod enc Try.prog w base sp held n 29 ((([c0, c1, c2, c3, c4, c5] : List Value).drop 2).take (Try.prog.cellsOf 29)) = some y2 := g2
  rw [kc2] at g2
  replace g2 : DataW.trod enc Try.prog w base sp held n 29 [c2, c3] = some y2 := g2
  obtain ⟨y3, g3⟩ := hf 3 _ rfl
  have kc3 : Try.prog.cellsOf 3 = 1 := by kernel_rfl
  replace g3 : DataW.trod enc Try.prog w base sp held n 3 ((([c0, c1, c2, c3, c4, c5] : List Value).drop 4).take (Try.prog.cellsOf 3)) = some y3 := g3
  rw [kc3] at g3
  replace g3 : DataW.trod enc Try.prog w base sp held n 3 [c4] = some y3 := g3
  obtain ⟨y4, g4⟩ := hf 4 _ rfl
  have kc4 : Try.prog.cellsOf 3 = 1 := by kernel_rfl
  replace g4 : DataW.trod enc Try.prog w base sp held n 3 ((([c0, c1, c2, c3, c4, c5] : List Value).drop 5).take (Try.prog.cellsOf 3)) = some y4 := g4
  rw [kc4] at g4
  replace g4 : DataW.trod enc Try.prog w base sp held n 3 [c5] = some y4 := g4
  obtain ⟨m0, rfl⟩ := oneS g0
  obtain ⟨m1, rfl⟩ := oneS g1
  obtain ⟨m3, rfl⟩ := oneI g3
  obtain ⟨m4, rfl⟩ := oneI g4
  obtain ⟨s, e⟩ := open29 g2
  simp only [List.cons.injEq, and_true] at e
  obtain ⟨rfl, rfl⟩ := e
  exact ⟨⟨m0, m1, s, m3, m4⟩, k61_mk w ⟨m0, m1, s, m3, m4⟩, by rw [hc]; rfl⟩
set_option maxRecDepth 100000 in
theorem open64 {fuel : Nat} {cs : List Value} {x : DataW H × List MemPlace} (h : DataW.trod enc Try.prog w base sp held fuel 64 cs = some x) : ∃ y : S64, k64.K w y cs ∧ cs.length = Try.prog.cellsOf 64 := by
  obtain ⟨hl, n, hf⟩ := flds Try.underlying64 h
  have hc : Try.prog.cellsOf 64 = 6 := by kernel_rfl
  rw [hc] at hl
  obtain ⟨c0, c1, c2, c3, c4, c5, rfl⟩ : ∃ c0 c1 c2 c3 c4 c5, cs = [c0, c1, c2, c3, c4, c5] := by
    match cs, hl with
    | [c0, c1, c2, c3, c4, c5], _ => exact ⟨c0, c1, c2, c3, c4, c5, rfl⟩
  obtain ⟨y0, g0⟩ := hf 0 _ rfl
  have kc0 : Try.prog.cellsOf 9 = 1 := by kernel_rfl
  replace g0 : DataW.trod enc Try.prog w base sp held n 9 ((([c0, c1, c2, c3, c4, c5] : List Value).drop 0).take (Try.prog.cellsOf 9)) = some y0 := g0
  rw [kc0] at g0
  replace g0 : DataW.trod enc Try.prog w base sp held n 9 [c0] = some y0 := g0
  obtain ⟨y1, g1⟩ := hf 1 _ rfl
  have kc1 : Try.prog.cellsOf 3 = 1 := by kernel_rfl
  replace g1 : DataW.trod enc Try.prog w base sp held n 3 ((([c0, c1, c2, c3, c4, c5] : List Value).drop 1).take (Try.prog.cellsOf 3)) = some y1 := g1
  rw [kc1] at g1
  replace g1 : DataW.trod enc Try.prog w base sp held n 3 [c1] = some y1 := g1
  obtain ⟨y2, g2⟩ := hf 2 _ rfl
  have kc2 : Try.prog.cellsOf 3 = 1 := by kernel_rfl
  replace g2 : DataW.trod enc Try.prog w base sp held n 3 ((([c0, c1, c2, c3, c4, c5] : List Value).drop 2).take (Try.prog.cellsOf 3)) = some y2 := g2
  rw [kc2] at g2
  replace g2 : DataW.trod enc Try.prog w base sp held n 3 [c2] = some y2 := g2
  obtain ⟨y3, g3⟩ := hf 3 _ rfl
  have kc3 : Try.prog.cellsOf 3 = 1 := by kernel_rfl
  replace g3 : DataW.trod enc Try.prog w base sp held n 3 ((([c0, c1, c2, c3, c4, c5] : List Value).drop 3).take (Try.prog.cellsOf 3)) = some y3 := g3
  rw [kc3] at g3
  replace g3 : DataW.trod enc Try.prog w base sp held n 3 [c3] = some y3 := g3
  obtain ⟨y4, g4⟩ := hf 4 _ rfl
  have kc4 : Try.prog.cellsOf 3 = 1 := by kernel_rfl
  replace g4 : DataW.trod enc Try.prog w base sp held n 3 ((([c0, c1, c2, c3, c4, c5] : List Value).drop 4).take (Try.prog.cellsOf 3)) = some y4 := g4
  rw [kc4] at g4
  replace g4 : DataW.trod enc Try.prog w base sp held n 3 [c4] = some y4 := g4
  obtain ⟨y5, g5⟩ := hf 5 _ rfl
  have kc5 : Try.prog.cellsOf 62 = 1 := by kernel_rfl
  replace g5 : DataW.trod enc Try.prog w base sp held n 62 ((([c0, c1, c2, c3, c4, c5] : List Value).drop 5).take (Try.prog.cellsOf 62)) = some y5 := g5
  rw [kc5] at g5
  replace g5 : DataW.trod enc Try.prog w base sp held n 62 [c5] = some y5 := g5
  obtain ⟨m0, rfl⟩ := oneS g0
  obtain ⟨m1, rfl⟩ := oneI g1
  obtain ⟨m2, rfl⟩ := oneI g2
  obtain ⟨m3, rfl⟩ := oneI g3
  obtain ⟨m4, rfl⟩ := oneI g4
  obtain ⟨A, c, l, e, hl5, hC⟩ := kslice Kd.string ByteArray.empty Try.underlying62 (by kernel_rfl) (fun fuel cs x h => by
    obtain ⟨s, e, _⟩ := DataW.trod_string Try.underlying9 h
    subst e
    exact ⟨s, rfl, by rw [k9]; rfl⟩) g5
  obtain rfl : c5 = .slice A l.length c := by simpa using e
  exact ⟨⟨m0, m1, m2, m3, m4, l⟩, k64_mk w ⟨m0, m1, m2, m3, m4, l⟩ hl5 hC, by rw [hc]; rfl⟩
set_option maxRecDepth 100000 in
theorem openCfgL {fuel : Nat} {cs : List Value} {x : DataW H × List MemPlace} (h : DataW.trod enc Try.prog w base sp held fuel 31 cs = some x) : ∃ (c : Cfg) (p : CfgAt), cs = (#[.int .i64 c.seed, .slice p.A1 c.sv.length p.c1, .slice p.A2 c.off.length p.c2, .slice p.A3 c.ch.length p.c3, .slice p.A4 c.fl.length p.c4, .int .i64 c.sfrom, .int .i64 c.sto, .int .i64 c.per, .int .i64 c.delay, .int .i64 c.chunk, .int .i64 c.loss, .int .i64 c.rep] : Array Value).toList ∧ CfgR w p c := by
  obtain ⟨hl, n, hf⟩ := flds Try.underlying31 h
  have hc : Try.prog.cellsOf 31 = 12 := by kernel_rfl
  rw [hc] at hl
  obtain ⟨c0, c1, c2, c3, c4, c5, c6, c7, c8, c9, c10, c11, rfl⟩ : ∃ c0 c1 c2 c3 c4 c5 c6 c7 c8 c9 c10 c11, cs = [c0, c1, c2, c3, c4, c5, c6, c7, c8, c9, c10, c11] := by
    match cs, hl with
    | [c0, c1, c2, c3, c4, c5, c6, c7, c8, c9, c10, c11], _ => exact ⟨c0, c1, c2, c3, c4, c5, c6, c7, c8, c9, c10, c11, rfl⟩
  obtain ⟨y0, g0⟩ := hf 0 _ rfl
  have kc0 : Try.prog.cellsOf 3 = 1 := by kernel_rfl
  replace g0 : DataW.trod enc Try.prog w base sp held n 3 ((([c0, c1, c2, c3, c4, c5, c6, c7, c8, c9, c10, c11] : List Value).drop 0).take (Try.prog.cellsOf 3)) = some y0 := g0
  rw [kc0] at g0
  replace g0 : DataW.trod enc Try.prog w base sp held n 3 [c0] = some y0 := g0
  obtain ⟨y1, g1⟩ := hf 1 _ rfl
  have kc1 : Try.prog.cellsOf 24 = 1 := by kernel_rfl
  replace g1 : DataW.trod enc Try.prog w base sp held n 24 ((([c0, c1, c2, c3, c4, c5, c6, c7, c8, c9, c10, c11] : List Value).drop 1).take (Try.prog.cellsOf 24)) = some y1 := g1
  rw [kc1] at g1
  replace g1 : DataW.trod enc Try.prog w base sp held n 24 [c1] = some y1 := g1
  obtain ⟨y2, g2⟩ := hf 2 _ rfl
  have kc2 : Try.prog.cellsOf 25 = 1 := by kernel_rfl
  replace g2 : DataW.trod enc Try.prog w base sp held n 25 ((([c0, c1, c2, c3, c4, c5, c6, c7, c8, c9, c10, c11] : List Value).drop 2).take (Try.prog.cellsOf 25)) = some y2 := g2
  rw [kc2] at g2
  replace g2 : DataW.trod enc Try.prog w base sp held n 25 [c2] = some y2 := g2
  obtain ⟨y3, g3⟩ := hf 3 _ rfl
  have kc3 : Try.prog.cellsOf 26 = 1 := by kernel_rfl
  replace g3 : DataW.trod enc Try.prog w base sp held n 26 ((([c0, c1, c2, c3, c4, c5, c6, c7, c8, c9, c10, c11] : List Value).drop 3).take (Try.prog.cellsOf 26)) = some y3 := g3
  rw [kc3] at g3
  replace g3 : DataW.trod enc Try.prog w base sp held n 26 [c3] = some y3 := g3
  obtain ⟨y4, g4⟩ := hf 4 _ rfl
  have kc4 : Try.prog.cellsOf 27 = 1 := by kernel_rfl
  replace g4 : DataW.trod enc Try.prog w base sp held n 27 ((([c0, c1, c2, c3, c4, c5, c6, c7, c8, c9, c10, c11] : List Value).drop 4).take (Try.prog.cellsOf 27)) = some y4 := g4
  rw [kc4] at g4
  replace g4 : DataW.trod enc Try.prog w base sp held n 27 [c4] = some y4 := g4
  obtain ⟨y5, g5⟩ := hf 5 _ rfl
  have kc5 : Try.prog.cellsOf 29 = 2 := by kernel_rfl
  replace g5 : DataW.trod enc Try.prog w base sp held n 29 ((([c0, c1, c2, c3, c4, c5, c6, c7, c8, c9, c10, c11] : List Value).drop 5).take (Try.prog.cellsOf 29)) = some y5 := g5
  rw [kc5] at g5
  replace g5 : DataW.trod enc Try.prog w base sp held n 29 [c5, c6] = some y5 := g5
  obtain ⟨y6, g6⟩ := hf 6 _ rfl
  have kc6 : Try.prog.cellsOf 3 = 1 := by kernel_rfl
  replace g6 : DataW.trod enc Try.prog w base sp held n 3 ((([c0, c1, c2, c3, c4, c5, c6, c7, c8, c9, c10, c11] : List Value).drop 7).take (Try.prog.cellsOf 3)) = some y6 := g6
  rw [kc6] at g6
  replace g6 : DataW.trod enc Try.prog w base sp held n 3 [c7] = some y6 := g6
  obtain ⟨y7, g7⟩ := hf 7 _ rfl
  have kc7 : Try.prog.cellsOf 3 = 1 := by kernel_rfl
  replace g7 : DataW.trod enc Try.prog w base sp held n 3 ((([c0, c1, c2, c3, c4, c5, c6, c7, c8, c9, c10, c11] : List Value).drop 8).take (Try.prog.cellsOf 3)) = some y7 := g7
  rw [kc7] at g7
  replace g7 : DataW.trod enc Try.prog w base sp held n 3 [c8] = some y7 := g7
  obtain ⟨y8, g8⟩ := hf 8 _ rfl
  have kc8 : Try.prog.cellsOf 3 = 1 := by kernel_rfl
  replace g8 : DataW.trod enc Try.prog w base sp held n 3 ((([c0, c1, c2, c3, c4, c5, c6, c7, c8, c9, c10, c11] : List Value).drop 9).take (Try.prog.cellsOf 3)) = some y8 := g8
  rw [kc8] at g8
  replace g8 : DataW.trod enc Try.prog w base sp held n 3 [c9] = some y8 := g8
  obtain ⟨y9, g9⟩ := hf 9 _ rfl
  have kc9 : Try.prog.cellsOf 3 = 1 := by kernel_rfl
  replace g9 : DataW.trod enc Try.prog w base sp held n 3 ((([c0, c1, c2, c3, c4, c5, c6, c7, c8, c9, c10, c11] : List Value).drop 10).take (Try.prog.cellsOf 3)) = some y9 := g9
  rw [kc9] at g9
  replace g9 : DataW.trod enc Try.prog w base sp held n 3 [c10] = some y9 := g9
  obtain ⟨y10, g10⟩ := hf 10 _ rfl
  have kc10 : Try.prog.cellsOf 3 = 1 := by kernel_rfl
  replace g10 : DataW.trod enc Try.prog w base sp held n 3 ((([c0, c1, c2, c3, c4, c5, c6, c7, c8, c9, c10, c11] : List Value).drop 11).take (Try.prog.cellsOf 3)) = some y10 := g10
  rw [kc10] at g10
  replace g10 : DataW.trod enc Try.prog w base sp held n 3 [c11] = some y10 := g10
  obtain ⟨m0, rfl⟩ := oneI g0
  obtain ⟨m6, rfl⟩ := oneI g6
  obtain ⟨m7, rfl⟩ := oneI g7
  obtain ⟨m8, rfl⟩ := oneI g8
  obtain ⟨m9, rfl⟩ := oneI g9
  obtain ⟨m10, rfl⟩ := oneI g10
  obtain ⟨A1, d1, l1, e1, hl1, hC1⟩ := kslice k64 z64 Try.underlying24 (by kernel_rfl) (fun fuel cs x h => open64 h) g1
  obtain ⟨A2, d2, l2, e2, hl2, hC2⟩ := kslice k91 z91 Try.underlying25 (by kernel_rfl) (fun fuel cs x h => open91 h) g2
  obtain ⟨A3, d3, l3, e3, hl3, hC3⟩ := kslice k100 z100 Try.underlying26 (by kernel_rfl) (fun fuel cs x h => open100 h) g3
  obtain ⟨A4, d4, l4, e4, hl4, hC4⟩ := kslice k61 z61 Try.underlying27 (by kernel_rfl) (fun fuel cs x h => open61 h) g4
  obtain ⟨s, e⟩ := open29 g5
  simp only [List.cons.injEq, and_true] at e e1 e2 e3 e4
  obtain ⟨rfl, rfl⟩ := e
  subst e1 e2 e3 e4
  exact ⟨⟨m0, l1, l2, l3, l4, s.f0, s.f1, m6, m7, m8, m9, m10⟩, ⟨A1, d1, A2, d2, A3, d3, A4, d4⟩, rfl, ⟨hC1, hl1, hC2, hl2, hC3, hl3, hC4, hl4⟩⟩
set_option maxRecDepth 100000 in
theorem openCfg {r : Reach} {b : Nat} {v : Value} {d : DataW H} {ps : List MemPlace} (hv : Value.okWide Try.prog w r b 31 v) (h : DataW.Trod enc Try.prog w base sp held 31 v d ps) : ∃ (c : Cfg) (p : CfgAt), v = c.val p ∧ CfgR w p c := by
  obtain ⟨cs, rfl, hs⟩ : ∃ cs : Array Value, v = .agg cs ∧ cs.size = 12 := by
    simp only [Value.okWide, Try.underlying31] at hv
    obtain ⟨cs, h1, h2, _⟩ := hv
    exact ⟨cs, h1, by rw [h2]; kernel_rfl⟩
  obtain ⟨fuel, hf⟩ := h
  obtain ⟨c, p, e, hR⟩ := openCfgL (cs := cs.toList) hf
  refine ⟨c, p, ?_, hR⟩
  have e2 := congrArg List.toArray e
  simp only [Array.toArray_toList] at e2
  rw [e2]
end
end Go.Proofs.Ytdadnapfecmmdaa.P
