/- Own texts of a proof about layer 55's simulate (merged): Po. -/
import Derived.Test.YtdadnapfecmmdaaYm3
import Derived.WalkKit
import Derived.ProofKit
import Derived.OpenShut
import Derived.ChangeOld
import Derived.Deep.Slices
namespace Go.Proofs.Ytdadnapfecmmdaa.P
set_option linter.unusedVariables false
set_option linter.unusedSimpArgs false
open Go.RowKit Go.Proofs.YtdadnapfecmmdaaW.PrintWords Go.Proofs.YtdadnapfecmmdaaW.PrintLast Go.Proofs.YtdadnapfecmmdaaW.PrintMore
theorem u8list (cs : List Value) (h : ∀ i (hi : i < cs.length), ∃ n, cs[i] = .int .u8 n ∧ U8 n) : ∃ ns : List Int, cs = ns.map (Value.int .u8) ∧ ∀ n ∈ ns, U8 n := by
  induction cs with
  | nil => exact ⟨[], rfl, by simp⟩
  | cons c r ih =>
    obtain ⟨n, e, hn⟩ := h 0 (by simp)
    obtain ⟨ns, e2, h2⟩ := ih (fun i hi => by
      have := h (i + 1) (by simp; omega)
      simpa using this)
    refine ⟨n :: ns, ?_, ?_⟩
    · simp only [List.getElem_cons_zero] at e
      rw [e, e2]; rfl
    · intro m hm
      rcases List.mem_cons.mp hm with rfl | hm
      · exact hn
      · exact h2 m hm
section
variable {H : Type} {enc : TypeId × Value → H} {w : World} {base : Nat} {sp : Nat → Bool} {held : Bool}
theorem u8struct {e : TypeId} {fs : Array Field} {fuel : Nat} {cs : List Value} {x : DataW H × List MemPlace} (ht : Try.prog.underlying e = some (.struct fs)) (hc : Try.prog.cellsOf e = fs.size)
    (hone : ∀ i (h : i < fs.size), fs[i].type = 5 ∧ fs[i].offset = i) (h : DataW.trod enc Try.prog w base sp held fuel e cs = some x) : ∃ ns : List Int, cs = ns.map (Value.int .u8) ∧ ns.length = fs.size ∧ ∀ n ∈ ns, U8 n := by
  obtain ⟨xs, n, _, _, hl, hxl, hf⟩ := DataW.trod_struct ht h
  rw [hc] at hl
  obtain ⟨ns, e1, e2⟩ := u8list cs (fun i hi => by
    obtain ⟨q1, q2⟩ := hone i (by omega)
    have g := hf i fs[i] (by simp [show i < fs.size by omega])
    rw [q1, q2, List.getElem?_eq_getElem (by omega)] at g
    obtain ⟨m, e, _, hw⟩ := DataW.trod_int Try.underlying5 g
    have c5 : Try.prog.cellsOf 5 = 1 := by kernel_rfl
    rw [c5, List.drop_eq_getElem_cons (by omega)] at e
    simp only [List.take_succ_cons, List.take_zero, List.cons.injEq, and_true] at e
    exact ⟨m, e, bounds_u8 hw⟩)
  exact ⟨ns, e1, by rw [e1, List.length_map] at hl; exact hl, e2⟩
theorem u8slice {α : Type} (d : Kd α) (mk : List Int → α) {t e : TypeId} {fs : Array Field} {fuel : Nat} {cs : List Value} {x : DataW H × List MemPlace} (hs : Try.prog.underlying t = some (.slice e)) (ht : Try.prog.underlying e = some (.struct fs)) (hc : Try.prog.cellsOf e = fs.size)
    (hsz : d.sz = fs.size) (hone : ∀ i (h : i < fs.size), fs[i].type = 5 ∧ fs[i].offset = i) (hmk : ∀ (W : World) ns, ns.length = fs.size → d.K W (mk ns) (ns.map (Value.int .u8)))
    (h : DataW.trod enc Try.prog w base sp held fuel t cs = some x) :
    ∃ A c, ∃ l : List α, cs = [.slice A l.length c] ∧ l.length ≤ c ∧ d.C w A l.length l ∧ ∀ y ∈ l, ∃ ns, y = mk ns ∧ ns.length = fs.size ∧ ∀ n ∈ ns, U8 n := by
  rcases Go.Deep.open_slice hs h with ⟨rfl, _⟩ | ⟨a, len, cap, m, n, D, Pl, rfl, hb, hle, hcap, hm, _, hel⟩
  · exact ⟨none, 0, [], rfl, Nat.le_refl _, ⟨rfl, by simp, fun h => absurd h (by simp)⟩, by simp⟩
  · have key : ∀ j : Nat, ∃ ns : List Int, j < len → ns.length = fs.size ∧ (∀ n ∈ ns, U8 n) ∧ ∀ i u, (ns.map (Value.int .u8))[i]? = some u → w.cell? (a.add (j * fs.size + i)) = some u := fun j => by
      by_cases hj : j < len
      · obtain ⟨cs', h1, h2⟩ := hel j (by rw [hm]; split <;> omega)
        obtain ⟨ns, rfl, h3, h4⟩ := u8struct ht hc hone h2
        refine ⟨ns, fun _ => ⟨h3, h4, fun i u hu => ?_⟩⟩
        obtain ⟨_, hlen, hcell⟩ := World.cells?_some h1
        have hi : i < fs.size := by
          have := (List.getElem?_eq_some_iff.mp hu).1
          rw [List.length_map] at this
          omega
        rw [hc] at hcell
        rw [← Go.Deep.add_add, hcell i hi]
        exact hu
      · exact ⟨[], fun h => absurd h hj⟩
    obtain ⟨f, hf⟩ := Classical.axiomOfChoice key
    have hll : ((List.range len).map fun j => mk (f j)).length = len := by simp
    refine ⟨some a, cap, (List.range len).map fun j => mk (f j), by rw [hll], by rw [hll]; exact hle, ?_, ?_⟩
    · rw [hll]
      refine ⟨hll, by have : maxLen ≤ 9223372036854775807 := by decide
                      omega, fun _ => ⟨a, rfl, fun j y hy => ?_⟩⟩
      rw [List.getElem?_map] at hy
      obtain ⟨j', hj', rfl⟩ := Option.map_eq_some_iff.mp hy
      obtain ⟨hjl, e⟩ := List.getElem?_eq_some_iff.mp hj'
      rw [List.getElem_range] at e
      subst e
      rw [List.length_range] at hjl
      obtain ⟨g1, g2, g3⟩ := hf j hjl
      exact ⟨(f j).map (Value.int .u8), by rw [List.length_map, g1, hsz], hmk w _ g1, fun i u hu => by rw [hsz]; exact g3 i u hu⟩
    · intro y hy
      obtain ⟨j, hj, rfl⟩ := List.mem_map.mp hy
      obtain ⟨g1, g2, _⟩ := hf j (List.mem_range.mp hj)
      exact ⟨f j, rfl, g1, g2⟩
def mk87 (ns : List Int) : S87 := ⟨ns.getD 0 0, ns.getD 1 0, ns.getD 2 0, ns.getD 3 0, ns.getD 4 0⟩
def mk93 (ns : List Int) : S93 := ⟨ns.getD 0 0, ns.getD 1 0, ns.getD 2 0, ns.getD 3 0, ns.getD 4 0⟩
def mk59 (ns : List Int) : S59 := ⟨ns.getD 0 0, ns.getD 1 0, ns.getD 2 0, ns.getD 3 0, ns.getD 4 0, ns.getD 5 0⟩
theorem mk87_K (W : World) (ns : List Int) (h : ns.length = 5) : k87.K W (mk87 ns) (ns.map (Value.int .u8)) := by
  match ns, h with
  | [a, b, c, d, e], _ => exact k87_mk W ⟨a, b, c, d, e⟩
theorem mk93_K (W : World) (ns : List Int) (h : ns.length = 5) : k93.K W (mk93 ns) (ns.map (Value.int .u8)) := by
  match ns, h with
  | [a, b, c, d, e], _ => exact k93_mk W ⟨a, b, c, d, e⟩
theorem mk59_K (W : World) (ns : List Int) (h : ns.length = 6) : k59.K W (mk59 ns) (ns.map (Value.int .u8)) := by
  match ns, h with
  | [a, b, c, d, e, f], _ => exact k59_mk W ⟨a, b, c, d, e, f⟩
def Fields5 (fs : Array Field) : Bool := (List.range fs.size).all fun i => match fs[i]? with
  | some f => f.type == 5 && f.offset == i
  | none => false
theorem fields5 {fs : Array Field} (h : Fields5 fs = true) : ∀ i (h : i < fs.size), fs[i].type = 5 ∧ fs[i].offset = i := fun i hi => by
  have := List.all_eq_true.mp h i (List.mem_range.mpr hi)
  simp only [Array.getElem?_eq_getElem hi, Bool.and_eq_true, beq_iff_eq] at this
  exact this
set_option maxRecDepth 100000 in
theorem openOffs {fuel : Nat} {c0 c1 c2 : Value} {x : DataW H × List MemPlace} (h : DataW.trod enc Try.prog w base sp held fuel 37 [c0, c1, c2] = some x) : ∃ a b c : Int, c0 = .int .i8 a ∧ c1 = .int .i8 b ∧ c2 = .int .i8 c ∧ I8 a ∧ I8 b ∧ I8 c := by
  obtain ⟨xs, m, _, _, hl, hn, hi⟩ := DataW.trod_array Try.underlying37 h
  obtain ⟨x0, x1, x2, rfl⟩ : ∃ a b c, xs = [a, b, c] := by
    match xs, hn with
    | [a, b, c], _ => exact ⟨a, b, c, rfl⟩
  have h0 := hi 0 (by decide)
  have h1 := hi 1 (by decide)
  have h2 := hi 2 (by decide)
  have cc : Try.prog.cellsOf 36 = 1 := by kernel_rfl
  rw [cc] at h0 h1 h2
  obtain ⟨n0, e0, _, w0⟩ := DataW.trod_int Try.underlying36 (x := x0) h0
  obtain ⟨n1, e1, _, w1⟩ := DataW.trod_int Try.underlying36 (x := x1) h1
  obtain ⟨n2, e2, _, w2⟩ := DataW.trod_int Try.underlying36 (x := x2) h2
  simp at e0 e1 e2
  exact ⟨n0, n1, n2, e0, e1, e2, bounds_i8 w0, bounds_i8 w1, bounds_i8 w2⟩
theorem openU8 {fuel : Nat} {c : Value} {x : DataW H × List MemPlace} (h : DataW.trod enc Try.prog w base sp held fuel 5 [c] = some x) : ∃ n : Int, c = .int .u8 n ∧ U8 n := by
  obtain ⟨n, e, _, hw⟩ := DataW.trod_int Try.underlying5 h
  simp at e
  exact ⟨n, e, bounds_u8 hw⟩
set_option maxRecDepth 100000 in
theorem openPlan {r : Reach} {b : Nat} {v : Value} {d : DataW H} {ps : List MemPlace} (hv : Value.okWide Try.prog w r b 41 v) (h : DataW.Trod enc Try.prog w base sp held 41 v d ps) : ∃ (p : Plan) (a : PlanAt), v = .agg (p.cells a) ∧ PlanR w a p ∧ PlanOk p := by
  obtain ⟨cs, rfl, hs⟩ : ∃ cs : Array Value, v = .agg cs ∧ cs.size = 14 := by
    simp only [Value.okWide, Try.underlying41] at hv
    obtain ⟨cs, h1, h2, _⟩ := hv
    exact ⟨cs, h1, by rw [h2]; kernel_rfl⟩
  obtain ⟨cs⟩ := cs
  obtain ⟨c0, c1, c2, c3, c4, c5, c6, c7, c8, c9, c10, c11, c12, c13, rfl⟩ : ∃ c0 c1 c2 c3 c4 c5 c6 c7 c8 c9 c10 c11 c12 c13, cs = [c0, c1, c2, c3, c4, c5, c6, c7, c8, c9, c10, c11, c12, c13] := by
    match cs, hs with
    | [c0, c1, c2, c3, c4, c5, c6, c7, c8, c9, c10, c11, c12, c13], _ => exact ⟨c0, c1, c2, c3, c4, c5, c6, c7, c8, c9, c10, c11, c12, c13, rfl⟩
  obtain ⟨fuel, hf⟩ := h
  obtain ⟨xs, m, _, _, hl, hn, hi⟩ := DataW.trod_struct Try.underlying41 hf
  obtain ⟨x0, x1, x2, x3, x4, x5, x6, x7, x8, x9, x10, x11, rfl⟩ : ∃ x0 x1 x2 x3 x4 x5 x6 x7 x8 x9 x10 x11, xs = [x0, x1, x2, x3, x4, x5, x6, x7, x8, x9, x10, x11] := by
    match xs, hn with
    | [x0, x1, x2, x3, x4, x5, x6, x7, x8, x9, x10, x11], _ => exact ⟨x0, x1, x2, x3, x4, x5, x6, x7, x8, x9, x10, x11, rfl⟩
  have k5 : Try.prog.cellsOf 5 = 1 := by kernel_rfl
  have k35 : Try.prog.cellsOf 35 = 1 := by kernel_rfl
  have k37 : Try.prog.cellsOf 37 = 3 := by kernel_rfl
  have k38 : Try.prog.cellsOf 38 = 1 := by kernel_rfl
  have k39 : Try.prog.cellsOf 39 = 1 := by kernel_rfl
  have g0 := hi 0 { name := "Seed", type := 5, offset := 0, embedded := false, tag := "", pkgPath := "", byteOffset := 0 } rfl
  have g1 := hi 1 { name := "Parts", type := 35, offset := 1, embedded := false, tag := "", pkgPath := "", byteOffset := 8 } rfl
  have g2 := hi 2 { name := "Offsets", type := 37, offset := 2, embedded := false, tag := "", pkgPath := "", byteOffset := 32 } rfl
  have g3 := hi 3 { name := "Changes", type := 38, offset := 5, embedded := false, tag := "", pkgPath := "", byteOffset := 40 } rfl
  have g4 := hi 4 { name := "Troubles", type := 39, offset := 6, embedded := false, tag := "", pkgPath := "", byteOffset := 64 } rfl
  have g5 := hi 5 { name := "First", type := 5, offset := 7, embedded := false, tag := "", pkgPath := "", byteOffset := 88 } rfl
  have g6 := hi 6 { name := "Slots", type := 5, offset := 8, embedded := false, tag := "", pkgPath := "", byteOffset := 89 } rfl
  have g7 := hi 7 { name := "PerSlot", type := 5, offset := 9, embedded := false, tag := "", pkgPath := "", byteOffset := 90 } rfl
  have g8 := hi 8 { name := "Delay", type := 5, offset := 10, embedded := false, tag := "", pkgPath := "", byteOffset := 91 } rfl
  have g9 := hi 9 { name := "Chunk", type := 5, offset := 11, embedded := false, tag := "", pkgPath := "", byteOffset := 92 } rfl
  have g10 := hi 10 { name := "Loss", type := 5, offset := 12, embedded := false, tag := "", pkgPath := "", byteOffset := 93 } rfl
  have g11 := hi 11 { name := "Repeat", type := 5, offset := 13, embedded := false, tag := "", pkgPath := "", byteOffset := 94 } rfl
  simp only [k5, k35, k37, k38, k39] at g0 g1 g2 g3 g4 g5 g6 g7 g8 g9 g10 g11
  obtain ⟨n0, rfl, b0⟩ := openU8 (c := c0) (x := x0) g0
  obtain ⟨A1, d1, l1, e1, hl1, hc1, ho1⟩ := u8slice k87 mk87 Try.underlying35 Try.underlying87 (by kernel_rfl) (by kernel_rfl) (fields5 (by kernel_rfl)) mk87_K (x := x1) g1
  obtain ⟨o0, o1, o2, rfl, rfl, rfl, bo0, bo1, bo2⟩ := openOffs (c0 := c2) (c1 := c3) (c2 := c4) (x := x2) g2
  obtain ⟨A2, d2, l2, e2, hl2, hc2, ho2⟩ := u8slice k93 mk93 Try.underlying38 Try.underlying93 (by kernel_rfl) (by kernel_rfl) (fields5 (by kernel_rfl)) mk93_K (x := x3) g3
  obtain ⟨A3, d3, l3, e3, hl3, hc3, ho3⟩ := u8slice k59 mk59 Try.underlying39 Try.underlying59 (by kernel_rfl) (by kernel_rfl) (fields5 (by kernel_rfl)) mk59_K (x := x4) g4
  obtain ⟨n5, rfl, b5⟩ := openU8 (c := c7) (x := x5) g5
  obtain ⟨n6, rfl, b6⟩ := openU8 (c := c8) (x := x6) g6
  obtain ⟨n7, rfl, b7⟩ := openU8 (c := c9) (x := x7) g7
  obtain ⟨n8, rfl, b8⟩ := openU8 (c := c10) (x := x8) g8
  obtain ⟨n9, rfl, b9⟩ := openU8 (c := c11) (x := x9) g9
  obtain ⟨n10, rfl, b10⟩ := openU8 (c := c12) (x := x10) g10
  obtain ⟨n11, rfl, b11⟩ := openU8 (c := c13) (x := x11) g11
  obtain rfl : c1 = .slice A1 l1.length d1 := by simpa [Value.cells] using e1
  obtain rfl : c5 = .slice A2 l2.length d2 := by simpa [Value.cells] using e2
  obtain rfl : c6 = .slice A3 l3.length d3 := by simpa [Value.cells] using e3
  refine ⟨⟨n0, l1, o0, o1, o2, l2, l3, n5, n6, n7, n8, n9, n10, n11⟩, ⟨A1, d1, A2, d2, A3, d3⟩, rfl, ⟨hc1, hl1, hc2, hl2, hc3, hl3⟩, ⟨b0, bo0, bo1, bo2, b5, b6, b7, b8, b9, b10, b11, ?_, ?_, ?_⟩⟩
  · intro x hx
    obtain ⟨ns, rfl, hq, hu⟩ := ho1 x hx
    match ns, hq with
    | [q0, q1, q2, q3, q4], _ => exact ⟨hu q0 (by simp), hu q1 (by simp), hu q2 (by simp), hu q3 (by simp), hu q4 (by simp)⟩
  · intro x hx
    obtain ⟨ns, rfl, hq, hu⟩ := ho2 x hx
    match ns, hq with
    | [q0, q1, q2, q3, q4], _ => exact ⟨hu q0 (by simp), hu q1 (by simp), hu q2 (by simp), hu q3 (by simp), hu q4 (by simp)⟩
  · intro x hx
    obtain ⟨ns, rfl, hq, hu⟩ := ho3 x hx
    match ns, hq with
    | [q0, q1, q2, q3, q4, q5], _ => exact ⟨hu q0 (by simp), hu q1 (by simp), hu q2 (by simp), hu q3 (by simp), hu q4 (by simp), hu q5 (by simp)⟩
end
end Go.Proofs.Ytdadnapfecmmdaa.P
