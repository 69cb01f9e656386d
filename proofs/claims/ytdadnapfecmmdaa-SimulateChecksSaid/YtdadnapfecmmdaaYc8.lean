/- Own texts of a proof about layer 55's simulate (merged): Hu, Hv, Hx, Sr, Fm, Kq, Cw, Cx, Cs, Ca, Ct, Cu. -/
import Derived.Test.YtdadnapfecmmdaaYc2
import Derived.Test.YtdadnapfecmmdaaYc3
import Derived.Test.YtdadnapfecmmdaaYc4
import Derived.Test.YtdadnapfecmmdaaYc7
import Derived.Laws.EntriesVeiled
import Derived.StillTailTactics
import Derived.Deep.DeepCutAuto
import Derived.Deep.CutBlock
import Derived.Deep.RegionHeld3
import Derived.Deep.DeepMust
namespace Go.Proofs.Ytdadnapfecmmdaa.P
set_option linter.unusedVariables false
set_option linter.unusedSimpArgs false
open Go.RowKit Go.Proofs.YtdadnapfecmmdaaW.PrintWords Go.Proofs.YtdadnapfecmmdaaW.PrintLast Go.Proofs.YtdadnapfecmmdaaW.PrintMore
open Go.Proofs.Ytdadnapfecmmdaa.Hm
def smC (l : List S64) : List (ByteArray × SvV) := l.foldl (fun m x => mput m x.f0 ⟨x, none, 0⟩) []
theorem smC_snoc (l : List S64) (x : S64) : smC (l ++ [x]) = mput (smC l) x.f0 ⟨x, none, 0⟩ := by simp [smC]
def sameX (a b : List (ByteArray × SvV)) : Prop := ∀ k, (mget a k).map (·.x) = (mget b k).map (·.x)
theorem sameX.put {a b : List (ByteArray × SvV)} (h : sameX a b) (k : ByteArray) (u v : SvV) (e : u.x = v.x) : sameX (mput a k u) (mput b k v) := by
  intro j
  by_cases hj : j = k
  · subst hj
    simp [mget_put_same, e]
  · rw [mget_put_other _ _ _ _ hj, mget_put_other _ _ _ _ hj]
    exact h j
theorem serveV_same (c : Cfg) (slot t : Int) (a b : List (ByteArray × SvV)) (hab : sameX a b) : ∀ n, serveV c slot t a n = serveV c slot t b n
  | 0 => by
    funext name parent x l
    simp [serveV]
  | n + 1 => by
    funext name parent x l
    unfold serveV
    rw [serveV_same c slot t a b hab n]
    have h := hab name
    cases ha : mget a name with
    | none =>
      rw [ha] at h
      cases hb : mget b name with
      | none => rfl
      | some v => rw [hb] at h; cases h
    | some u =>
      rw [ha] at h
      cases hb : mget b name with
      | none => rw [hb] at h; cases h
      | some v =>
        rw [hb] at h
        obtain ⟨ux, uA, uc⟩ := u
        obtain ⟨vx, vA, vc⟩ := v
        obtain rfl : ux = vx := by simpa using h
        rfl
def traceV (n : Nat) (c : Cfg) (slot k : Int) : Option (List Sp) :=
  match c.sv with
  | [] => none
  | x :: _ => if 0 ≤ slot ∧ slot ≤ 1048576 ∧ 0 ≤ k ∧ k ≤ 1048576 ∧ 0 ≤ c.delay ∧ c.delay ≤ 1048576 then (serveV c slot (slot * 1048576 + 1 + k) (smC c.sv) n x.f0 0 (1000 * slot + 7 * k) []).map (·.2.2) else none
def traceT.T12 : Bool × List (List Nat × List Nat) := (true, [([], []), ([], []), ([1], [1]), ([2], [2]), ([3], [3]), ([4], [4]), ([], []), ([6], [6]), ([], []), ([8], [8]), ([7, 9], [7, 9]), ([0, 5, 10], [0, 5, 10])])
def traceT.B12 : List Nat := [0, 0, 2, 6, 14, 30, 0, 64, 0, 256, 960, 2047]
theorem traceT.tab12 : rtab .any (opsOf Try.f68 12) = traceT.T12 := by kernel_rfl
theorem traceT.bits12 : waitsOk traceT.T12.2 traceT.B12 = true := by kernel_rfl
theorem two_blocks (w : World) (o0 o1 : Obj) : ((w.alloc o0).alloc o1).heap[w.heap.size]? = some o0 ∧ ((w.alloc o0).alloc o1).heap[w.heap.size + 1]? = some o1 ∧ ((w.alloc o0).alloc o1).heap.size = w.heap.size + 1 + 1 := by
  have z : ∀ (u : World) (o : Obj), (u.alloc o).heap.size = u.heap.size + 1 := fun u o => by simp
  have n1 := blk_new (w.alloc o0) o1
  simp only [z] at n1
  exact ⟨blk_alloc (blk_new w o0) _, n1, by simp only [z]⟩
structure TrB (wr : World) (bc bl bt g bm bs : Nat) (c : Cfg) (p : CfgAt) (slot t : Int) : Prop where
  c : wr.heap[bc]? = some (.cells (c.cells p) 31 (0, 0))
  l : wr.heap[bl]? = some (.cells #[.int .i64 slot] 3 (0, 0))
  t : wr.heap[bt]? = some (.cells #[.int .i64 t] 3 (0, 0))
  g : wr.heap[g]? = some (.cells #[.slice none 0 0] 49 (0, 0))
  s : wr.heap[bs]? = some (.cells #[.map (some bm)] 156 (0, 0))
theorem TrB.below {wr w2 : World} {bc bl bt g bm bs : Nat} {c : Cfg} {p : CfgAt} {slot t : Int} (h : TrB wr bc bl bt g bm bs c p slot t) (hb : Below wr.heap.size wr w2) : TrB w2 bc bl bt g bm bs c p slot t :=
  ⟨blk_below h.c hb, blk_below h.l hb, blk_below h.t hb, blk_below h.g hb, blk_below h.s hb⟩
theorem TrB.grown {wr w2 : World} {bc bl bt g bm bs : Nat} {c : Cfg} {p : CfgAt} {slot t : Int} (h : TrB wr bc bl bt g bm bs c p slot t) (hb : wr.grownBy w2 (some bm)) (n1 : bc ≠ bm) (n2 : bl ≠ bm) (n3 : bt ≠ bm) (n4 : g ≠ bm) (n5 : bs ≠ bm) : TrB w2 bc bl bt g bm bs c p slot t :=
  ⟨blk_grown h.c hb (by simpa using n1), blk_grown h.l hb (by simpa using n2), blk_grown h.t hb (by simpa using n3), blk_grown h.g hb (by simpa using n4), blk_grown h.s hb (by simpa using n5)⟩
theorem six_blocks (w : World) (o0 o1 o2 o3 o4 o5 : Obj) : ((((((w.alloc o0).alloc o1).alloc o2).alloc o3).alloc o4).alloc o5).heap[w.heap.size]? = some o0 ∧ ((((((w.alloc o0).alloc o1).alloc o2).alloc o3).alloc o4).alloc o5).heap[w.heap.size + 1]? = some o1 ∧
    ((((((w.alloc o0).alloc o1).alloc o2).alloc o3).alloc o4).alloc o5).heap[w.heap.size + 1 + 1]? = some o2 ∧ ((((((w.alloc o0).alloc o1).alloc o2).alloc o3).alloc o4).alloc o5).heap[w.heap.size + 1 + 1 + 1]? = some o3 ∧
    ((((((w.alloc o0).alloc o1).alloc o2).alloc o3).alloc o4).alloc o5).heap[w.heap.size + 1 + 1 + 1 + 1]? = some o4 ∧ ((((((w.alloc o0).alloc o1).alloc o2).alloc o3).alloc o4).alloc o5).heap[w.heap.size + 1 + 1 + 1 + 1 + 1]? = some o5 ∧
    ((((((w.alloc o0).alloc o1).alloc o2).alloc o3).alloc o4).alloc o5).heap.size = w.heap.size + 1 + 1 + 1 + 1 + 1 + 1 := by
  have z : ∀ (u : World) (o : Obj), (u.alloc o).heap.size = u.heap.size + 1 := fun u o => by simp
  have n1 := blk_new (w.alloc o0) o1
  have n2 := blk_new ((w.alloc o0).alloc o1) o2
  have n3 := blk_new (((w.alloc o0).alloc o1).alloc o2) o3
  have n4 := blk_new ((((w.alloc o0).alloc o1).alloc o2).alloc o3) o4
  have n5 := blk_new (((((w.alloc o0).alloc o1).alloc o2).alloc o3).alloc o4) o5
  simp only [z] at n1 n2 n3 n4 n5
  exact ⟨blk_alloc (blk_alloc (blk_alloc (blk_alloc (blk_alloc (blk_new w o0) _) _) _) _) _, blk_alloc (blk_alloc (blk_alloc (blk_alloc n1 _) _) _) _, blk_alloc (blk_alloc (blk_alloc n2 _) _) _, blk_alloc (blk_alloc n3 _) _, blk_alloc n4 _, n5, by simp only [z]⟩
set_option maxHeartbeats 8000000 in
set_option maxRecDepth 100000 in
theorem trace_calls (n : Nat) (c : Cfg) (p : CfgAt) (slot k : Int) (w : World) (r : List Sp) (hR : CfgR w p c) (h : traceV n c slot k = some r) :
    Calls Try.prog 68 #[c.val p, .int .i64 slot, .int .i64 k] w fun e w' => ∃ v, e = .returned v ∧ w'.ownsRow w.heap.size 56 14 v r.length (spc r) ∧ Below w.heap.size w w' := by
  unfold traceV at h
  obtain ⟨x0, sv', hsv⟩ : ∃ x0 sv', c.sv = x0 :: sv' := by
    cases hs : c.sv with
    | nil => rw [hs] at h; cases h
    | cons a b => exact ⟨a, b, rfl⟩
  rw [hsv] at h
  dsimp only at h
  by_cases hg : 0 ≤ slot ∧ slot ≤ 1048576 ∧ 0 ≤ k ∧ k ≤ 1048576 ∧ 0 ≤ c.delay ∧ c.delay ≤ 1048576
  case neg => rw [if_neg hg] at h; cases h
  rw [if_pos hg] at h
  obtain ⟨hs0, hs1, hk0, hk1, hd0, hd1⟩ := hg
  rw [← hsv] at h
  have hx0 : c.sv[0]? = some x0 := by rw [hsv]; rfl
  have hlen0 : 0 < c.sv.length := by rw [hsv]; simp
  clear hsv sv'
  have HA := Aside0.mk h
  have HX0 := Aside0.mk hx0
  have hbig : c.sv.length ≤ 9223372036854775807 := hR.r1.2.1
  have HR := Aside0.mk hR
  clear h hx0 hR
  obtain ⟨A1, c1, A2, c2, A3, c3, A4, c4⟩ := p
  have hmm := @run_makeMap Try.prog
  have s1 : IntKind.i64.wrap (1000 * slot) = 1000 * slot := IntWalk.i64_in _ (by omega)
  have s2 : IntKind.i64.wrap (7 * k) = 7 * k := IntWalk.i64_in _ (by omega)
  have s3 : IntKind.i64.wrap (1000 * slot + 7 * k) = 1000 * slot + 7 * k := IntWalk.i64_in _ (by omega)
  have s4 : IntKind.i64.wrap (slot * 1048576) = slot * 1048576 := IntWalk.i64_in _ (by omega)
  have s5 : IntKind.i64.wrap (slot * 1048576 + 1) = slot * 1048576 + 1 := IntWalk.i64_in _ (by omega)
  have s6 : IntKind.i64.wrap (slot * 1048576 + 1 + k) = slot * 1048576 + 1 + k := IntWalk.i64_in _ (by omega)
  go_enter Try.func68, Try.ntmps68
  go_wp2_with fail
  obtain ⟨k0, k1, k2, k3, k4, k5, k6⟩ := six_blocks w (.cells (c.cells ⟨A1, c1, A2, c2, A3, c3, A4, c4⟩) 31) (.cells #[.int .i64 slot] 3) (.cells #[.int .i64 (slot * 1048576 + 1 + k)] 3) (.cells #[.slice none 0 0] 49) (.map #[] 0) (.cells #[.map (some (w.heap.size + 1 + 1 + 1 + 1))] 156)
  have kb : Below w.heap.size w ((((((w.alloc (.cells (c.cells ⟨A1, c1, A2, c2, A3, c3, A4, c4⟩) 31)).alloc (.cells #[.int .i64 slot] 3)).alloc (.cells #[.int .i64 (slot * 1048576 + 1 + k)] 3)).alloc (.cells #[.slice none 0 0] 49)).alloc (.map #[] 0)).alloc (.cells #[.map (some (w.heap.size + 1 + 1 + 1 + 1))] 156)) :=
    below_alloc (below_alloc (below_alloc (below_alloc (below_alloc (below_alloc (Below.refl _ _) _) _) _) _) _) _
  unfold Cfg.cells at k0 k1 k2 k3 k4 k5 k6 kb
  dsimp only at k0 k1 k2 k3 k4 k5 k6 kb
  obtain ⟨bs, hbs⟩ : ∃ b, b = w.heap.size + 1 + 1 + 1 + 1 + 1 := ⟨_, rfl⟩
  rw [← hbs] at k5 k6 ⊢
  obtain ⟨bm, hbm⟩ : ∃ b, b = w.heap.size + 1 + 1 + 1 + 1 := ⟨_, rfl⟩
  rw [← hbm] at k0 k1 k2 k3 k4 k5 k6 kb hbs ⊢
  obtain ⟨g, hg⟩ : ∃ b, b = w.heap.size + 1 + 1 + 1 := ⟨_, rfl⟩
  rw [← hg] at k3 hbm ⊢
  obtain ⟨bt, hbt⟩ : ∃ b, b = w.heap.size + 1 + 1 := ⟨_, rfl⟩
  rw [← hbt] at k2 hg ⊢
  obtain ⟨bl, hbl⟩ : ∃ b, b = w.heap.size + 1 := ⟨_, rfl⟩
  rw [← hbl] at k1 hbt ⊢
  generalize ((((((w.alloc _).alloc _).alloc _).alloc _).alloc _).alloc _) = W0 at *
  have HT := Aside0.mk (TrB.mk (p := ⟨A1, c1, A2, c2, A3, c3, A4, c4⟩) k0 k1 k2 k3 k5 : TrB W0 w.heap.size bl bt g bm bs c ⟨A1, c1, A2, c2, A3, c3, A4, c4⟩ slot (slot * 1048576 + 1 + k))
  have HM := Aside0.mk (⟨#[], 0, k4, rfl⟩ : MapIs W0 bm Value.string svVal ([] : List (ByteArray × SvV)))
  have HB := Aside0.mk kb
  have HN := Aside0.mk (And.intro hbs (And.intro hbm (And.intro hg (And.intro hbt (And.intro hbl k6)))))
  clear k0 k1 k2 k3 k4 k5 kb hbs hbm hg hbt hbl k6
  go_loopg [23] c.sv.length (fun gg s23 wr => ∃ (i : Nat) (sm : List (ByteArray × SvV)), i ≤ c.sv.length ∧ c.sv.length - i ≤ gg ∧ s23 = .int .i64 i ∧ Aside0 (sameX sm (smC (c.sv.take i))) ∧ Aside0 (∀ nm sv, mget sm nm = some sv → Kd.C Kd.string w sv.A sv.x.f5.length sv.x.f5) ∧ Aside0 (MapIs wr bm Value.string svVal sm) ∧ Aside0 (TrB wr w.heap.size bl bt g bm bs c ⟨A1, c1, A2, c2, A3, c3, A4, c4⟩ slot (slot * 1048576 + 1 + k)) ∧ Aside0 (Below w.heap.size w wr) ∧ Aside0 (bs < wr.heap.size))
  case atStart => exact ⟨0, [], by omega, by omega, by rfl, ⟨fun _ => rfl⟩, ⟨fun _ _ h => by cases h⟩, HM, HT, HB, ⟨by have := HN.out.2.2.2.2.2; omega⟩⟩
  case round =>
    clear HM HT HB
    obtain ⟨i, sm, hi, hgi, rfl, HS, HK, HM, HT, HB, HZ⟩ := hrel
    by_cases hlt : i < c.sv.length
    · have g0 : decide ((i : Int) < (c.sv.length : Int)) = true := by simpa using hlt
      obtain ⟨ad, A5, c5, e, h0, h1, h2, h3, h4, h5, l5, k5⟩ := at_T64 HR.out.r1 (i : Int) (by omega) (by omega)
      cases e
      rw [rd_T64_get c.sv i hlt] at h0 h1 h2 h3 h4 h5 l5 k5
      simp only [Int.toNat_natCast] at h0 h1 h2 h3 h4 h5
      replace h0 := (HB.out.cell (World.block_lt_of_cell? w _ h0)).trans h0
      replace h1 := (HB.out.cell (World.block_lt_of_cell? w _ h1)).trans h1
      replace h2 := (HB.out.cell (World.block_lt_of_cell? w _ h2)).trans h2
      replace h3 := (HB.out.cell (World.block_lt_of_cell? w _ h3)).trans h3
      replace h4 := (HB.out.cell (World.block_lt_of_cell? w _ h4)).trans h4
      replace h5 := (HB.out.cell (World.block_lt_of_cell? w _ h5)).trans h5
      have hT := HS.out
      have hs := smC_snoc (c.sv.take i) c.sv[i]
      rw [List.take_append_getElem hlt] at hs
      generalize c.sv[i] = x at h0 h1 h2 h3 h4 h5 l5 k5 hs
      have HS' := Aside0.mk (show sameX (mput sm x.f0 ⟨x, A5, c5⟩) (smC (c.sv.take (i + 1))) from hs ▸ hT.put x.f0 _ _ rfl)
      have HK' := Aside0.mk (show ∀ nm sv, mget (mput sm x.f0 ⟨x, A5, c5⟩) nm = some sv → Kd.C Kd.string w sv.A sv.x.f5.length sv.x.f5 from fun nm sv h => by
        by_cases hn : nm = x.f0
        · subst hn
          rw [mget_put_same] at h
          cases h
          exact k5
        · rw [mget_put_other _ _ _ _ hn] at h
          exact HK.out nm sv h)
      clear hT hs k5 l5
      have q0 : wr.cell? ⟨bs, 0, none⟩ = some (.map (some bm)) := (blk_cell HT.out.s 0).trans rfl
      have hbs1 : bs < wr.heap.size := HZ.out
      have n1 : bs ≠ wr.heap.size := by omega
      go_wp2_with (first | (at_mapUpdate; refine wp_store rfl _ _ _ rfl Try.underlying156 Try.underlying9 enc_string (HM.out.alloc _) rfl _ (⟨x, A5, c5⟩ : SvV) rfl rfl ?_; intro w3 hm3 hg3))
      have hn := HN.out
      have ha : Below wr.heap.size wr (wr.alloc (.cells #[.string x.f0, .int .i64 x.f1, .int .i64 x.f2, .int .i64 x.f3, .int .i64 x.f4, .slice A5 x.f5.length c5] 64)) := below_alloc (Below.refl _ _) _
      have hsz : bs < w3.heap.size := Nat.lt_of_lt_of_le hbs1 (Nat.le_trans ha.size hg3.size)
      go_roundg (c.sv.length - (i + 1))
      case measure => omega
      case rel => exact ⟨i + 1, mput sm x.f0 ⟨x, A5, c5⟩, by omega, Nat.le_refl _, by go_num, HS', HK', ⟨hm3⟩, ⟨(HT.out.below ha).grown hg3 (by omega) (by omega) (by omega) (by omega) (by omega)⟩, ⟨(below_step HB.out ha).grown hg3 (Nat.le_trans HB.out.size ha.size) (fun z hz => by simp at hz; omega)⟩, ⟨hsz⟩⟩
    · obtain rfl : i = c.sv.length := by omega
      have g0 : decide ((c.sv.length : Int) < (c.sv.length : Int)) = false := by simp
      rw [List.take_length] at HS
      clear hi hgi hlt
      go_wp2_with fail
      obtain ⟨e0, e1, e2⟩ := two_blocks wr (.cells #[.func (.func 85) #[] #[pv g, pv bt]] 157) (.cells #[.func (.func 86) #[] #[pv bs, pv w.heap.size, pv bl, pv wr.heap.size, pv bt, pv (wr.heap.size + 1), pv g]] 158)
      have eb : Below wr.heap.size wr ((wr.alloc (.cells #[.func (.func 85) #[] #[pv g, pv bt]] 157)).alloc (.cells #[.func (.func 86) #[] #[pv bs, pv w.heap.size, pv bl, pv wr.heap.size, pv bt, pv (wr.heap.size + 1), pv g]] 158)) := below_alloc (below_alloc (Below.refl _ _) _) _
      unfold pv at e0 e1 e2 eb
      obtain ⟨bv, hbv⟩ : ∃ b, b = wr.heap.size + 1 := ⟨_, rfl⟩
      rw [← hbv] at e0 e1 e2 eb ⊢
      generalize (wr.alloc _).alloc _ = W1 at e0 e1 e2 eb ⊢
      obtain ⟨hn1, hn2, hn3, hn4, hn5, hn6⟩ := HN.out
      have hzz := HZ.out
      have HT1 := HT.out.below eb
      have HE := Aside0.mk (⟨HT1.s, HM.out.below eb, HT1.c, HT1.l, e0, HT1.t, e1, by omega, by omega, by omega, by omega, by omega, by omega, by omega, by omega, Nat.le_trans HB.out.size eb.size⟩ : EnvR W1 bs bm w.heap.size bl wr.heap.size bt bv g w.heap.size c ⟨A1, c1, A2, c2, A3, c3, A4, c4⟩ slot (slot * 1048576 + 1 + k) sm)
      have HS1 : Aside0 (SpR W1 g w.heap.size []) := ⟨⟨.slice none 0 0, HT1.g, rfl, .inl ⟨rfl, rfl⟩⟩⟩
      have HB1 := Aside0.mk (below_step HB.out eb)
      have hA := HA.out
      rw [← serveV_same c slot _ sm (smC c.sv) HS.out n] at hA
      obtain ⟨⟨r1, r2, l'⟩, hq, hq2⟩ := Option.map_eq_some_iff.mp hA
      obtain rfl : l' = r := hq2
      have HC := Aside0.mk hq
      clear hA hq HA HT1 hn1 hn2 hn3 hn4 hn5 hn6 hzz
      obtain ⟨bb, hbb⟩ : ∃ b, b = wr.heap.size := ⟨_, rfl⟩
      rw [← hbb] at HE e0 e1 ⊢
      obtain ⟨ad, A5, c5, e, h0, _⟩ := at_T64 HR.out.r1 (0 : Int) (by omega) (by omega)
      have hx : rd_T64 c.sv 0 = x0 := by
        have h9 := HX0.out
        have h8 := rd_T64_get c.sv 0 hlen0
        rw [List.getElem?_eq_getElem hlen0] at h9
        exact h8.trans (Option.some.inj h9)
      rw [hx, show ad.add ((0 : Int).toNat * 6) = ad from by simp [Addr.add]] at h0
      replace h0 := (HB1.out.cell (World.block_lt_of_cell? w _ h0)).trans h0
      cases e
      have q0 : W1.cell? ⟨bv, 0, none⟩ = some (.func (.func 86) #[] #[pv bs, pv w.heap.size, pv bl, pv bb, pv bt, pv bv, pv g]) := (blk_cell HE.out.v 0).trans rfl
      have q1 : W1.cell? ⟨w.heap.size, 1, none⟩ = some (.slice (some ad) c.sv.length c1) := (blk_cell HE.out.c 1).trans rfl
      have q2 : W1.cell? ⟨bl, 0, none⟩ = some (.int .i64 slot) := (blk_cell HE.out.l 0).trans rfl
      have p1 : (0 : Int) < (c.sv.length : Int) := by omega
      clear hbb hbv e0 e1 e2 eb hx
      go_wp2_with fail
      refine start_ (n := 12) (S := fun w' => Below W1.heap.size W1 w') (ds := [11]) #[false, false, false, false, false, false, false, false, false, false, false, false] (by kernel_rfl) rfl rfl (Below.refl _ _).drew (fun hHeld => ?_)
      refine with_tabW traceT.tab12 traceT.bits12 (fun HT_ HW_ => ?_)
      generalize W1.drew = wd at hHeld ⊢
      refine tk_ 0 (some 34) (bq 12 1) HT_ HW_ rfl rfl hHeld ?_ (by intro w' hS; replace q0 := below_at hS q0; replace q1 := below_at hS q1; replace q2 := below_at hS q2; replace h0 := below_at hS h0; go_simp; with_reducible rfl)
      refine pu_ 1 (some 35) (bq 12 3) HT_ rfl rfl ?_
      refine tk_ 2 (some 36) (bq 12 7) HT_ HW_ rfl rfl hHeld ?_ (by intro w' hS; replace q0 := below_at hS q0; replace q1 := below_at hS q1; replace q2 := below_at hS q2; replace h0 := below_at hS h0; go_simp; with_reducible rfl)
      refine pu_ 3 (some 37) (bq 12 15) HT_ rfl rfl ?_
      refine pu_ 4 (some 38) (bq 12 31) HT_ rfl rfl ?_
      refine tk_ 5 (some 39) (bq 12 63) HT_ HW_ rfl rfl hHeld ?_ (by intro w' hS; replace q0 := below_at hS q0; replace q1 := below_at hS q1; replace q2 := below_at hS q2; replace h0 := below_at hS h0; go_simp; with_reducible rfl)
      refine tk_ 6 (some 40) (bq 12 127) HT_ HW_ rfl rfl hHeld ?_ (by intro w' hS; replace q0 := below_at hS q0; replace q1 := below_at hS q1; replace q2 := below_at hS q2; replace h0 := below_at hS h0; go_simp; with_reducible rfl)
      refine pu_ 7 (some 41) (bq 12 255) HT_ rfl rfl ?_
      refine pu_ 8 (some 42) (bq 12 511) HT_ rfl rfl ?_
      refine pu_ 9 (some 43) (bq 12 1023) HT_ rfl rfl ?_
      refine pu_ 10 (some 44) (bq 12 2047) HT_ rfl rfl ?_
      refine last_ (i := 11) (N := some 45) #[true, true, true, true, true, true, true, true, true, true, true, true] rfl rfl (one_of HT_.out (by kernel_rfl)) (by decide) (fun K hK => ?_)
      refine call_ 86 #[.string x0.f0, .int .i64 0, .int .i64 (1000 * slot + 7 * k), pv bs, pv w.heap.size, pv bl, pv bb, pv bt, pv bv, pv g] (by rfl) rfl ?_ ?_
      · have he := enters_ (P := Try.prog) Try.func86 (by kernel_rfl) rfl #[.string x0.f0, .int .i64 0, .int .i64 (1000 * slot + 7 * k), pv bs, pv w.heap.size, pv bl, pv bb, pv bt, pv bv, pv g] wd
        unfold execOp
        simp [resolve, Deferred.ofValue, invoke, Act.eval, he]
      refine (serve_calls w bs bm w.heap.size bl bb bt bv g c ⟨some ad, c1, A2, c2, A3, c3, A4, c4⟩ slot (slot * 1048576 + 1 + k) sm HR.out hd0 hd1 HK.out n x0.f0 0 (1000 * slot + 7 * k) [] wd r1 r2 _ HC.out (HE.out.keep (KeepT.of_below hHeld g)) (HS1.out.below hHeld) (below_step HB1.out hHeld)).mono ?_
      rintro e w5 ⟨rfl, hs5, hk5, hb5⟩
      refine ⟨_, rfl, ?_⟩
      have HS7 := Aside0.mk hs5
      have CB7 := Aside0.mk hb5
      clear hs5 hk5 hb5
      refine hK.out _ _ ?_
      clear hK K
      refine norm_ (a' := ?_) ?_ ?_
      rotate_left
      · show Act.put _ (some 45) _ = _
        simp only [Act.put, List.setIfInBounds_toArray, List.set_cons_zero, List.set_cons_succ, i64_w, i32_w]
        rfl
      refine done_ (done_of HT_.out (by kernel_rfl)) ?_
      obtain ⟨v, hv, hown⟩ := HS7.out
      have q9 : w5.cell? ⟨g, 0, none⟩ = some v := (blk_cell hv 0).trans rfl
      have HO := Aside0.mk hown
      clear hv hown HS7 q0 q1 q2 h0
      go_wp2_with fail
      go_ret
      exact ⟨v, rfl, HO.out, CB7.out⟩
def shiftSp (off : List S91) (s : Sp) : Sp := { s with st := wrap64 (s.st + (offOf off s.clk).1), en := wrap64 (s.en + (offOf off s.clk).1) }
def Shows (fid : Nat) (caps : Array Value) (f : Sp → Sp) (base : Nat) (w0 : World) (ok : World → Prop) : Prop :=
  (∀ (args : Array Value) (w : World), (callFunc fid args).run Try.prog w = .ok (.enter fid args) w) ∧
  ∀ (W : World) (r cp b j : Nat) (l : List Sp) (hj : j < l.length), ok W → Below base w0 W → base ≤ b → b ≤ W.heap.size → W.ownsRow b 56 14 (.slice (some ⟨r, 0, none⟩) l.length cp) l.length (spc l) →
    Calls Try.prog fid (#[.pointer (some ⟨r, j * 14, none⟩)] ++ caps) W fun e w' => e = .returned (.tuple #[]) ∧ w'.ownsRow b 56 14 (.slice (some ⟨r, 0, none⟩) l.length cp) l.length (spc (l.set j (f l[j]))) ∧ Below b W w' ∧ ∀ i, i < W.heap.size → i ≠ r → w'.heap[i]? = W.heap[i]?
theorem own_cell56 {W : World} {b r cp : Nat} {l : List Sp} (ho : W.ownsRow b 56 14 (.slice (some ⟨r, 0, none⟩) l.length cp) l.length (spc l)) (j i : Nat) (hj : j < l.length) (hi : i < 14) : W.cell? ⟨r, j * 14 + i, none⟩ = (l[j].cells)[i]? ∧ W.frozen? ⟨r, j * 14 + i, none⟩ = false ∧ b ≤ r ∧ r < W.heap.size := by
  rcases ho.2 with ⟨_, h⟩ | ⟨r', cap, cur, e, hb, hr, h1, h2, h3, h4⟩
  · omega
  · injection e with e
    injection e with e
    injection e with e
    subst e
    have hc : ∀ i, i < l.length * 14 → cur[i]? = (spc l)[i]? := fun i hi => by
      rw [← h4, List.getElem?_take, if_pos hi, Array.getElem?_toList]
    exact ⟨by rw [blk_cell hr, hc _ (by omega), spc_get l j i hj hi], blk_frozen hr _, hb, blk_lt hr⟩
theorem own_shift {W : World} {b r cp : Nat} {l : List Sp} (ho : W.ownsRow b 56 14 (.slice (some ⟨r, 0, none⟩) l.length cp) l.length (spc l)) (j : Nat) (hj : j < l.length) (st en : Int) :
    ((W.setCell ⟨r, j * 14 + 9, none⟩ (.int .i64 st)).setCell ⟨r, j * 14 + 10, none⟩ (.int .i64 en)).ownsRow b 56 14 (.slice (some ⟨r, 0, none⟩) l.length cp) l.length (spc (l.set j { l[j] with st := st, en := en })) := by
  obtain ⟨o1, g1⟩ := ho.stored (j * 14 + 9) (.int .i64 st)
  obtain ⟨o2, g2⟩ := o1.stored (j * 14 + 10) (.int .i64 en)
  rw [spc_set l j 9 (.int .i64 st) { l[j] with st := st } hj (by omega) rfl] at o1 o2
  rw [spc_set (l.set j { l[j] with st := st }) j 10 (.int .i64 en) { l[j] with st := st, en := en } (by simpa using hj) (by omega) (by simp [Sp.cells])] at o2
  simpa using o2
def showT.T0 : Bool × List (List Nat × List Nat) := (true, [([], []), ([], []), ([1], [1]), ([2], [2]), ([3], [3]), ([0, 4], [0, 4]), ([5], [5]), ([6], [6]), ([6], [6]), ([7, 5, 0, 1, 2, 3, 4, 5, 6, 7], [7]), ([8, 9, 0, 1, 2, 3, 4, 5, 6, 7, 8, 9], [8])])
def showT.B0 : List Nat := [0, 0, 2, 6, 14, 31, 63, 127, 127, 255, 1023]
theorem showT.tab0 : rtab .any (opsOf Try.f37 0) = showT.T0 := by kernel_rfl
theorem showT.bits0 : waitsOk showT.T0.2 showT.B0 = true := by kernel_rfl
def showT.T1 : Bool × List (List Nat × List Nat) := (true, [([], []), ([], []), ([], []), ([2], [2]), ([3], [3]), ([4], [4]), ([], []), ([5, 6], [5, 6]), ([], []), ([8], [8]), ([9], [9]), ([10], [10]), ([], []), ([11, 12], [11, 12]), ([0, 0, 2, 3, 4, 5, 6, 7, 11], [0]), ([14, 0, 2, 3, 4, 5, 6, 7, 11], [14]), ([15, 7, 0, 2, 3, 4, 5, 6, 7, 11], [7, 15]), ([1, 0, 1, 2, 3, 4, 5, 6, 7, 8, 9, 10, 11, 12, 13, 14, 15, 16], [1]), ([17, 0, 1, 2, 3, 4, 5, 6, 7, 8, 9, 10, 11, 12, 13, 14, 15, 16], [17]), ([18, 13, 16, 0, 1, 2, 3, 4, 5, 6, 7, 8, 9, 10, 11, 12, 13, 14, 15, 16], [13, 18])])
def showT.B1 : List Nat := [0, 0, 0, 4, 12, 28, 0, 124, 0, 256, 768, 1792, 0, 7936, 4093, 20477, 53245, 131071, 262143, 524287]
theorem showT.tab1 : rtab .any (opsOf Try.f37 1) = showT.T1 := by kernel_rfl
theorem showT.bits1 : waitsOk showT.T1.2 showT.B1 = true := by kernel_rfl
set_option maxHeartbeats 8000000 in
set_option maxRecDepth 100000 in
theorem traces_shows (w0 : World) (c : Cfg) (p : CfgAt) (bx : Nat) (hR : CfgR w0 p c) : Shows 37 #[pv bx] (shiftSp c.off) w0.heap.size w0 (fun W => W.heap[bx]? = some (.cells (c.cells p) 31 (0, 0))) := by
  refine ⟨fun args w => enters_ Try.func37 (by kernel_rfl) rfl args w, fun W r cp b j l hj hC hB hbb hbW ho => ?_⟩
  obtain ⟨e4, _, hbr, hrW⟩ := own_cell56 ho j 4 hj (by omega)
  have CR := Aside0.mk (hR.below hB)
  have HO := Aside0.mk ho
  have HC := Aside0.mk hC
  obtain ⟨A1, c1, A2, c2, A3, c3, A4, c4⟩ := p
  have q0 : W.cell? ⟨r, j * 14 + 4, none⟩ = some (.int .i64 l[j].clk) := e4
  have q1 : W.cell? ⟨bx, 0, none⟩ = some (.int .i64 c.seed) := (blk_cell HC.out 0).trans rfl
  have q2 : W.cell? ⟨bx, 1, none⟩ = some (.slice A1 c.sv.length c1) := (blk_cell HC.out 1).trans rfl
  have q3 : W.cell? ⟨bx, 2, none⟩ = some (.slice A2 c.off.length c2) := (blk_cell HC.out 2).trans rfl
  have q4 : W.cell? ⟨bx, 3, none⟩ = some (.slice A3 c.ch.length c3) := (blk_cell HC.out 3).trans rfl
  have q5 : W.cell? ⟨bx, 4, none⟩ = some (.slice A4 c.fl.length c4) := (blk_cell HC.out 4).trans rfl
  have q6 : W.cell? ⟨bx, 5, none⟩ = some (.int .i64 c.sfrom) := (blk_cell HC.out 5).trans rfl
  have q7 : W.cell? ⟨bx, 6, none⟩ = some (.int .i64 c.sto) := (blk_cell HC.out 6).trans rfl
  have q8 : W.cell? ⟨bx, 7, none⟩ = some (.int .i64 c.per) := (blk_cell HC.out 7).trans rfl
  have q9 : W.cell? ⟨bx, 8, none⟩ = some (.int .i64 c.delay) := (blk_cell HC.out 8).trans rfl
  have q10 : W.cell? ⟨bx, 9, none⟩ = some (.int .i64 c.chunk) := (blk_cell HC.out 9).trans rfl
  have q11 : W.cell? ⟨bx, 10, none⟩ = some (.int .i64 c.loss) := (blk_cell HC.out 10).trans rfl
  have q12 : W.cell? ⟨bx, 11, none⟩ = some (.int .i64 c.rep) := (blk_cell HC.out 11).trans rfl
  have EO := Aside0.mk (show shiftSp c.off l[j] = { l[j] with st := wrap64 (l[j].st + (offOf c.off l[j].clk).1), en := wrap64 (l[j].en + (offOf c.off l[j].clk).1) } from rfl)
  clear ho hC e4 hB hR
  simp only [List.append_toArray, List.cons_append, List.nil_append]
  go_enter Try.func37, Try.ntmps37
  go_wp2_with fail
  refine start_ (n := 11) (S := fun w' => Below W.heap.size W w') (ds := []) #[false, false, false, false, false, false, false, false, false, false, false] (by kernel_rfl) rfl rfl (Below.refl _ _).drew (fun hHeld => ?_)
  refine with_tabW showT.tab0 showT.bits0 (fun HT_ HW_ => ?_)
  generalize W.drew = wd at hHeld ⊢
  refine tk_ 0 (some 6) (bq 11 1) HT_ HW_ rfl rfl hHeld ?_ (by intro w' hS; replace q0 := below_at hS q0; replace q1 := below_at hS q1; replace q2 := below_at hS q2; replace q3 := below_at hS q3; replace q4 := below_at hS q4; replace q5 := below_at hS q5; replace q6 := below_at hS q6; replace q7 := below_at hS q7; replace q8 := below_at hS q8; replace q9 := below_at hS q9; replace q10 := below_at hS q10; replace q11 := below_at hS q11; replace q12 := below_at hS q12; go_simp; with_reducible rfl)
  refine pu_ 1 (some 7) (bq 11 3) HT_ rfl rfl ?_
  refine pu_ 2 (some 8) (bq 11 7) HT_ rfl rfl ?_
  refine pu_ 3 (some 9) (bq 11 15) HT_ rfl rfl ?_
  refine tk_ 4 (some 10) (bq 11 31) HT_ HW_ rfl rfl hHeld ?_ (by intro w' hS; replace q0 := below_at hS q0; replace q1 := below_at hS q1; replace q2 := below_at hS q2; replace q3 := below_at hS q3; replace q4 := below_at hS q4; replace q5 := below_at hS q5; replace q6 := below_at hS q6; replace q7 := below_at hS q7; replace q8 := below_at hS q8; replace q9 := below_at hS q9; replace q10 := below_at hS q10; replace q11 := below_at hS q11; replace q12 := below_at hS q12; go_simp; with_reducible rfl)
  refine one_ (i := 5) (N := some 11) #[true, true, true, true, true, true, false, false, false, false, false] rfl rfl (one_of HT_.out (by kernel_rfl)) (by decide) (fun K hK => ?_)
  refine goes_ Try.func38 (by kernel_rfl) rfl #[c.val ⟨A1, c1, A2, c2, A3, c3, A4, c4⟩, .int .i64 l[j].clk] (by rfl) rfl rfl (by (try simp only [List.map_toArray, List.map_cons, List.map_nil]); first | done | rfl | (simp only [List.length_drop, List.length_take]; rfl)) ?_
  with_reducible refine (offset_calls c ⟨A1, c1, A2, c2, A3, c3, A4, c4⟩ l[j].clk _ (CR.out.below hHeld)).mono ?_
  rintro e wx ⟨rfl, hb⟩
  refine ⟨_, rfl, ?_⟩
  replace hHeld := below_step hHeld hb
  clear hb
  refine hK.out _ _ hHeld (fun hHeld => ?_)
  clear hK K
  refine norm_ (a' := ?_) ?_ ?_
  rotate_left
  · show Act.put _ (some 11) _ = _
    simp only [Act.put, List.setIfInBounds_toArray, List.set_cons_zero, List.set_cons_succ, i64_w, i32_w]
    rfl
  refine pu_ 6 (some 5) (bq 11 127) HT_ rfl rfl ?_
  refine pu_ 7 (some 12) (bq 11 255) HT_ rfl rfl ?_
  refine pu_ 8 (some 13) (bq 11 511) HT_ rfl rfl ?_
  refine pu_ 9 (some 3) (bq 11 1023) HT_ rfl rfl ?_
  refine pu_ 10 (some 4) (bq 11 2047) HT_ rfl rfl ?_
  refine done_ (done_of HT_.out (by kernel_rfl)) ?_
  obtain ⟨off, hoff⟩ : ∃ o : Int, o = (offOf c.off l[j].clk).1 := ⟨_, rfl⟩
  rw [← hoff] at EO ⊢
  have HO1 := Aside0.mk (pw_own_below HO.out hHeld)
  have hd : Below wx.heap.size wx wx.drew := (Below.refl _ _).drew
  have HO2 := Aside0.mk (pw_own_below HO1.out hd)
  have HB2 := Aside0.mk ((below_step hHeld hd).mono hbW)
  have HB3 := Aside0.mk (below_step hHeld hd)
  obtain ⟨e9, _, _, _⟩ := own_cell56 HO1.out j 9 hj (by omega)
  obtain ⟨e10, _, _, _⟩ := own_cell56 HO1.out j 10 hj (by omega)
  obtain ⟨g9, f9, _, _⟩ := own_cell56 HO2.out j 9 hj (by omega)
  obtain ⟨g10, f10, _, _⟩ := own_cell56 HO2.out j 10 hj (by omega)
  replace e9 : wx.cell? ⟨r, j * 14 + 9, none⟩ = some (.int .i64 l[j].st) := e9
  replace e10 : wx.cell? ⟨r, j * 14 + 10, none⟩ = some (.int .i64 l[j].en) := e10
  replace g9 : wx.drew.cell? ⟨r, j * 14 + 9, none⟩ = some (.int .i64 l[j].st) := g9
  replace g10 : wx.drew.cell? ⟨r, j * 14 + 10, none⟩ = some (.int .i64 l[j].en) := g10
  clear hHeld hd hoff HO HO1 q0 q1 q2 q3 q4 q5 q6 q7 q8 q9 q10 q11 q12
  go_wp2_with fail
  refine start_ (n := 20) (S := fun w' => Below wx.heap.size wx w') (ds := [16, 19]) #[false, false, false, false, false, false, false, false, false, false, false, false, false, false, false, false, false, false, false, false] (by kernel_rfl) rfl rfl (Below.refl _ _).drew (fun hHeld => ?_)
  refine with_tabW showT.tab1 showT.bits1 (fun HT_ HW_ => ?_)
  generalize wx.drew = wz at hHeld HO2 HB2 HB3 g9 g10 f9 f10 ⊢
  refine with_tabW showT.tab1 showT.bits1 (fun HT_ HW_ => ?_)
  refine pu_ 0 (some 14) (bq 20 1) HT_ rfl rfl ?_
  refine pu_ 1 (some 15) (bq 20 3) HT_ rfl rfl ?_
  refine pu_ 2 (some 16) (bq 20 7) HT_ rfl rfl ?_
  refine pu_ 3 (some 17) (bq 20 15) HT_ rfl rfl ?_
  refine pu_ 4 (some 18) (bq 20 31) HT_ rfl rfl ?_
  refine tk_ 5 (some 19) (bq 20 63) HT_ HW_ rfl rfl hHeld ?_ (by intro w' hS; replace e9 := below_at hS e9; replace e10 := below_at hS e10; go_simp; with_reducible rfl)
  refine pu_ 6 (some 20) (bq 20 127) HT_ rfl rfl ?_
  refine pu_ 7 (some 21) (bq 20 255) HT_ rfl rfl ?_
  refine pu_ 8 (some 22) (bq 20 511) HT_ rfl rfl ?_
  refine pu_ 9 (some 23) (bq 20 1023) HT_ rfl rfl ?_
  refine pu_ 10 (some 24) (bq 20 2047) HT_ rfl rfl ?_
  refine tk_ 11 (some 25) (bq 20 4095) HT_ HW_ rfl rfl hHeld ?_ (by intro w' hS; replace e9 := below_at hS e9; replace e10 := below_at hS e10; go_simp; with_reducible rfl)
  refine pu_ 12 (some 26) (bq 20 8191) HT_ rfl rfl ?_
  refine pu_ 13 (some 27) (bq 20 16383) HT_ rfl rfl ?_
  refine pu_ 14 (some 28) (bq 20 32767) HT_ rfl rfl ?_
  refine pu_ 15 (some 29) (bq 20 65535) HT_ rfl rfl ?_
  refine last_ (i := 16) (N := none) #[true, true, true, true, true, true, true, true, true, true, true, true, true, true, true, true, true, false, false, false] rfl rfl (one_of HT_.out (by kernel_rfl)) (by decide) (fun K hK => ?_)
  rw [if_pos (by rfl)]
  go_simp
  refine hK.out _ _ ?_
  clear hK K
  refine pu_ 17 (some 30) (bq 20 262143) HT_ rfl rfl ?_
  refine pu_ 18 (some 31) (bq 20 524287) HT_ rfl rfl ?_
  refine last_ (i := 19) (N := none) #[true, true, true, true, true, true, true, true, true, true, true, true, true, true, true, true, true, true, true, true] rfl rfl (one_of HT_.out (by kernel_rfl)) (by decide) (fun K hK => ?_)
  rw [if_pos (by rfl)]
  go_simp
  refine hK.out _ _ ?_
  clear hK K
  refine done_ (done_of HT_.out (by kernel_rfl)) ?_
  go_wp2_with fail
  go_returns
  refine ⟨by rfl, ?_, ?_, ?_⟩
  · rw [EO.out]
    with_reducible exact own_shift HO2.out j hj _ _
  · exact (HB2.out.setCell hbr _).setCell hbr _
  · intro i hi hir
    rw [Below.heap_setCell _ _ _ _ hir, Below.heap_setCell _ _ _ _ hir]
    exact HB3.out.block i hi
structure Tr where
  id : Int
  l : List Sp
def trc : List (Tr × Value) → List Value
  | [] => []
  | x :: r => [.int .i64 x.1.id, .int .i64 1, x.2] ++ trc r
theorem trc_snoc (l : List (Tr × Value)) (x : Tr × Value) : trc (l ++ [x]) = trc l ++ [.int .i64 x.1.id, .int .i64 1, x.2] := by
  induction l with
  | nil => rfl
  | cons a r ih => simp [trc, ih]
def TsR (W : World) (base : Nat) (xs : List (Tr × Value)) : Prop := ∀ x ∈ xs, W.ownsRow base 56 14 x.2 x.1.l.length (spc x.1.l)
def trK (tv : Int → Option (List Sp)) (f : Sp → Sp) : Nat → Int → List Tr → Option (List Tr)
  | 0, _, acc => some acc
  | j + 1, k, acc => if acc.length < 100000 then (tv k).bind fun l => match l with
    | [] => none
    | s :: r => trK tv f j (k + 1) (acc ++ [⟨s.tr, (s :: r).map f⟩])
    else none
def trS (n : Nat) (c : Cfg) (f : Sp → Sp) : Nat → Int → List Tr → Option (List Tr)
  | 0, _, acc => some acc
  | j + 1, s, acc => (trK (traceV n c s) f c.per.toNat 0 acc).bind fun a => trS n c f j (s + 1) a
def tracesV (n : Nat) (c : Cfg) (f : Sp → Sp) : Option (List Tr) := if 0 ≤ c.sfrom ∧ c.sto ≤ 1048576 ∧ c.per ≤ 1048576 then trS n c f (c.sto - c.sfrom).toNat c.sfrom [] else none
theorem own_base {W : World} {b b' : Nat} {e : TypeId} {sz n : Nat} {v : Value} {xs : List Value} (h : W.ownsRow b e sz v n xs) (hb : b' ≤ b) : W.ownsRow b' e sz v n xs := by
  refine ⟨h.1, ?_⟩
  rcases h.2 with h | ⟨g, cap, cur, h1, h2, h3⟩
  · exact .inl h
  · exact .inr ⟨g, cap, cur, h1, Nat.le_trans hb h2, h3⟩
theorem TsR.below {W W' : World} {base : Nat} {xs : List (Tr × Value)} (h : TsR W base xs) (hb : Below W.heap.size W W') : TsR W' base xs := fun x hx => pw_own_below (h x hx) hb
theorem own_keep {W W' : World} {b : Nat} {e : TypeId} {sz n : Nat} {v : Value} {xs : List Value} (h : W.ownsRow b e sz v n xs) (hk : ∀ (g : Nat) (cur : Array Value), W.heap[g]? = some (Obj.cells cur e (0, 0)) → W'.heap[g]? = W.heap[g]?) : W'.ownsRow b e sz v n xs := by
  refine ⟨h.1, ?_⟩
  rcases h.2 with h | ⟨g, cap, cur, h1, h2, h3, h4⟩
  · exact .inl h
  · exact .inr ⟨g, cap, cur, h1, h2, (hk g cur h3).trans h3, h4⟩
theorem own_some {W : World} {b : Nat} {e : TypeId} {sz n : Nat} {v : Value} {xs : List Value} (h : W.ownsRow b e sz v n xs) (hn : 0 < n) : ∃ (r cp : Nat) (cur : Array Value), v = .slice (some ⟨r, 0, none⟩) n cp ∧ W.heap[r]? = some (Obj.cells cur e (0, 0)) ∧ b ≤ r := by
  rcases h.2 with ⟨_, h⟩ | ⟨g, cap, cur, h1, h2, h3, h4⟩
  · omega
  · exact ⟨g, cap, cur, h1, h3, h2⟩
def TsOut (base : Nat) (w' : World) (ts : List Tr) (v : Value) : Prop := ∃ xs : List (Tr × Value), xs.map (·.1) = ts ∧ w'.ownsRow base 51 3 v xs.length (trc xs) ∧ TsR w' base xs
def mid (f : Sp → Sp) (l : List Sp) (i : Nat) : List Sp := (l.take i).map f ++ l.drop i
theorem mid_len (f : Sp → Sp) (l : List Sp) (i : Nat) : (mid f l i).length = l.length := by
  unfold mid
  rw [List.length_append, List.length_map, List.length_take, List.length_drop]
  omega
theorem mid_get? (f : Sp → Sp) (l : List Sp) (i : Nat) (hi : i < l.length) : (mid f l i)[i]? = some l[i] := by
  unfold mid
  rw [List.getElem?_append_right (by simp; omega)]
  simp only [List.length_map, List.length_take, List.getElem?_drop]
  rw [show i + (i - min i l.length) = i from by omega, List.getElem?_eq_getElem hi]
theorem mid_get (f : Sp → Sp) (l : List Sp) (i : Nat) (hi : i < l.length) (h : i < (mid f l i).length) : (mid f l i)[i] = l[i] := by
  have h1 := mid_get? f l i hi
  rw [List.getElem?_eq_getElem h] at h1
  exact Option.some.inj h1
theorem mid_set (f : Sp → Sp) (l : List Sp) (i : Nat) (hi : i < l.length) : (mid f l i).set i (f l[i]) = mid f l (i + 1) := by
  unfold mid
  rw [List.set_append_right _ _ (by simp; omega)]
  rw [List.take_succ_eq_append_getElem hi, List.drop_eq_getElem_cons hi]
  simp only [List.length_map, List.length_take, List.map_append, List.map_cons, List.map_nil, List.append_assoc, List.cons_append, List.nil_append]
  rw [show i - min i l.length = 0 from by omega]
  rfl
theorem mid_end (f : Sp → Sp) (l : List Sp) : mid f l l.length = l.map f := by simp [mid]
theorem mid_zero (f : Sp → Sp) (l : List Sp) : mid f l 0 = l := by simp [mid]
set_option maxHeartbeats 8000000 in
set_option maxRecDepth 100000 in
theorem traces_calls (n k : Nat) (c : Cfg) (p : CfgAt) (w : World) (fid : Nat) (caps : Array Value) (f : Sp → Sp) (ts : List Tr) (hR : CfgR w p c) (hsh : Shows fid caps f w.heap.size w (fun W => Below w.heap.size w W)) (hck : ckAll k c = some 0) (h : tracesV n c f = some ts) :
    Calls Try.prog 36 #[c.val p, .func (.func fid) #[] caps] w fun e w' => ∃ v, e = .returned (.tuple #[v, .int .i64 0]) ∧ TsOut w.heap.size w' ts v ∧ Below w.heap.size w w' := by
  unfold tracesV at h
  by_cases hg : 0 ≤ c.sfrom ∧ c.sto ≤ 1048576 ∧ c.per ≤ 1048576
  case neg => rw [if_neg hg] at h; cases h
  rw [if_pos hg] at h
  obtain ⟨hg0, hg1, hg2⟩ := hg
  have HR := Aside0.mk hR
  have HA := Aside0.mk h
  have HCK := Aside0.mk hck
  have eg := hsh.1
  have HSH := Aside0.mk hsh.2
  clear hR h hck hsh
  obtain ⟨A1, c1, A2, c2, A3, c3, A4, c4⟩ := p
  go_enter Try.func36, Try.ntmps36
  go_wp2_with fail
  refine (check_calls k c ⟨A1, c1, A2, c2, A3, c3, A4, c4⟩ 0 _ (HR.out.below (below_alloc (Below.refl _ _) _)) HCK.out).mono ?_
  rintro e w1 ⟨rfl, hb1⟩
  have HB := Aside0.mk (below_step (below_alloc (Below.refl w.heap.size w) _) hb1)
  have HX := Aside0.mk (blk_below (blk_new w (.cells (c.cells ⟨A1, c1, A2, c2, A3, c3, A4, c4⟩) 31)) hb1)
  clear hb1 HCK
  have q5 : w1.cell? ⟨w.heap.size, 5, none⟩ = some (.int .i64 c.sfrom) := (blk_cell HX.out 5).trans rfl
  go_wp2_with fail
  clear q5
  go_loopg [7, 8] (c.sto - c.sfrom).toNat (fun gg s7 s8 wr => ∃ (j : Nat) (s : Int) (acc : List Tr) (xs : List (Tr × Value)) (cp : Nat) (A : Option Addr), s7 = .slice A xs.length cp ∧ s8 = .int .i64 s ∧ j ≤ gg ∧ Aside0 (j = (c.sto - s).toNat) ∧ c.sfrom ≤ s ∧ Aside0 (trS n c f j s acc = some ts) ∧ Aside0 (xs.map (·.1) = acc) ∧ Aside0 (wr.ownsRow w.heap.size 51 3 (.slice A xs.length cp) xs.length (trc xs)) ∧ Aside0 (TsR wr w.heap.size xs) ∧ Aside0 (Below w.heap.size w wr) ∧ Aside0 (wr.heap[w.heap.size]? = some (.cells (c.cells ⟨A1, c1, A2, c2, A3, c3, A4, c4⟩) 31 (0, 0))))
  case atStart => exact ⟨(c.sto - c.sfrom).toNat, c.sfrom, [], [], 0, none, by rfl, by rfl, by omega, ⟨rfl⟩, by omega, HA, ⟨rfl⟩, ⟨rfl, .inl ⟨rfl, rfl⟩⟩, ⟨fun _ h => by cases h⟩, HB, HX⟩
  case round =>
    clear HA HB HX
    obtain ⟨j, s, acc, xs, cp, A, rfl, rfl, hj, HJ, hs0, HA, HM, HO, HT, HB, HX⟩ := hrel
    have q5 : wr.cell? ⟨w.heap.size, 6, none⟩ = some (.int .i64 c.sto) := (blk_cell HX.out 6).trans rfl
    have q6 : wr.cell? ⟨w.heap.size, 7, none⟩ = some (.int .i64 c.per) := (blk_cell HX.out 7).trans rfl
    cases j with
    | zero =>
      have hjj := HJ.out
      have hx : ¬ s < c.sto := by omega
      have g0 : decide (s < c.sto) = false := by simpa using hx
      have hA := HA.out
      rw [trS] at hA
      obtain rfl := Option.some.inj hA
      clear hA HA hjj HJ
      go_wp2_with fail
      refine bodyPost_ret (results_tmp2 rfl _ _ _) rfl ?_
      exact ⟨_, by rfl, ⟨xs, HM.out, HO.out, HT.out⟩, HB.out⟩
    | succ j =>
      have hjj := HJ.out
      have hx : s < c.sto := by omega
      have g0 : decide (s < c.sto) = true := by simpa using hx
      have hA := HA.out
      rw [trS] at hA
      obtain ⟨a1, hK, hA⟩ := Option.bind_eq_some_iff.mp hA
      have HA := Aside0.mk hA
      have HK := Aside0.mk hK
      have s1 : IntKind.i64.wrap (s + 1) = s + 1 := IntWalk.i64_in _ (by omega)
      have HJ1 := Aside0.mk (show j = (c.sto - (s + 1)).toNat from by omega)
      clear hA hK hjj HJ
      go_wp2_with fail
      obtain ⟨wq, rfl⟩ : ∃ wq : World, wq = wr := ⟨_, rfl⟩
      go_loopg [7, 29] c.per.toNat (fun gg s7 s29 wr => ∃ (i : Nat) (kk : Int) (acc : List Tr) (xs : List (Tr × Value)) (cp : Nat) (A : Option Addr), s7 = .slice A xs.length cp ∧ s29 = .int .i64 kk ∧ i ≤ gg ∧ Aside0 (i = (c.per - kk).toNat) ∧ 0 ≤ kk ∧ Aside0 (trK (traceV n c s) f i kk acc = some a1) ∧ Aside0 (xs.map (·.1) = acc) ∧ Aside0 (wr.ownsRow w.heap.size 51 3 (.slice A xs.length cp) xs.length (trc xs)) ∧ Aside0 (TsR wr w.heap.size xs) ∧ Aside0 (Below w.heap.size w wr) ∧ Aside0 (wr.heap[w.heap.size]? = some (.cells (c.cells ⟨A1, c1, A2, c2, A3, c3, A4, c4⟩) 31 (0, 0))))
      case atStart => exact ⟨c.per.toNat, 0, acc, xs, cp, A, by rfl, by rfl, by omega, ⟨by omega⟩, by omega, HK, HM, HO, HT, HB, HX⟩
      case round =>
        clear HK HM HO HT HB HX q5 q6 g0
        obtain ⟨i, kk, acc, xs, cp, A, rfl, rfl, hi, HI, hk0, HK, HM, HO, HT, HB, HX⟩ := hrel
        cases i with
        | zero =>
          have hii := HI.out
          have hx2 : ¬ kk < c.per := by omega
          have g0 : decide (kk < c.per) = false := by simpa using hx2
          have hK := HK.out
          rw [trK] at hK
          obtain rfl := Option.some.inj hK
          clear hK HK hii HI
          go_wp2_with fail
          go_roundg j
          case measure => omega
          case rel => exact ⟨j, s + 1, acc, xs, cp, A, by rfl, by go_num, Nat.le_refl _, HJ1, by omega, HA, HM, HO, HT, HB, HX⟩
        | succ i =>
          have hii := HI.out
          have hx2 : kk < c.per := by omega
          have g0 : decide (kk < c.per) = true := by simpa using hx2
          have hK := HK.out
          rw [trK] at hK
          by_cases hacc : acc.length < 100000
          case neg => rw [if_neg hacc] at hK; cases hK
          rw [if_pos hacc] at hK
          obtain ⟨l, hl, hK⟩ := Option.bind_eq_some_iff.mp hK
          obtain ⟨sp0, sps, rfl⟩ : ∃ a b, l = a :: b := by
            cases l with
            | nil => cases hK
            | cons a b => exact ⟨a, b, rfl⟩
          have HK' := Aside0.mk hK
          have HL := Aside0.mk hl
          have HI1 := Aside0.mk (show i = (c.per - (kk + 1)).toNat from by omega)
          have s2 : IntKind.i64.wrap (kk + 1) = kk + 1 := IntWalk.i64_in _ (by omega)
          clear hK hl HK hii HI
          have p0 : wr.cell? ⟨w.heap.size, 0, none⟩ = some (.int .i64 c.seed) := (blk_cell HX.out 0).trans rfl
          have p1 : wr.cell? ⟨w.heap.size, 1, none⟩ = some (.slice A1 c.sv.length c1) := (blk_cell HX.out 1).trans rfl
          have p2 : wr.cell? ⟨w.heap.size, 2, none⟩ = some (.slice A2 c.off.length c2) := (blk_cell HX.out 2).trans rfl
          have p3 : wr.cell? ⟨w.heap.size, 3, none⟩ = some (.slice A3 c.ch.length c3) := (blk_cell HX.out 3).trans rfl
          have p4 : wr.cell? ⟨w.heap.size, 4, none⟩ = some (.slice A4 c.fl.length c4) := (blk_cell HX.out 4).trans rfl
          have p5 : wr.cell? ⟨w.heap.size, 5, none⟩ = some (.int .i64 c.sfrom) := (blk_cell HX.out 5).trans rfl
          have p6 : wr.cell? ⟨w.heap.size, 6, none⟩ = some (.int .i64 c.sto) := (blk_cell HX.out 6).trans rfl
          have p7 : wr.cell? ⟨w.heap.size, 7, none⟩ = some (.int .i64 c.per) := (blk_cell HX.out 7).trans rfl
          have p8 : wr.cell? ⟨w.heap.size, 8, none⟩ = some (.int .i64 c.delay) := (blk_cell HX.out 8).trans rfl
          have p9 : wr.cell? ⟨w.heap.size, 9, none⟩ = some (.int .i64 c.chunk) := (blk_cell HX.out 9).trans rfl
          have p10 : wr.cell? ⟨w.heap.size, 10, none⟩ = some (.int .i64 c.loss) := (blk_cell HX.out 10).trans rfl
          have p11 : wr.cell? ⟨w.heap.size, 11, none⟩ = some (.int .i64 c.rep) := (blk_cell HX.out 11).trans rfl
          go_wp2_with fail
          refine (trace_calls n c ⟨A1, c1, A2, c2, A3, c3, A4, c4⟩ s kk wr (sp0 :: sps) (HR.out.below HB.out) HL.out).mono ?_
          rintro e w3 ⟨v0, rfl, ho0, hb0⟩
          obtain ⟨r, cp0, cur, rfl, hr, hbr⟩ := own_some ho0 (by simp)
          have HO0 := Aside0.mk ho0
          have HR0 := Aside0.mk hr
          have HB0 := Aside0.mk hb0
          have hw3 := hb0.size
          obtain ⟨e0, _, _, hr3⟩ := own_cell56 HO0.out 0 0 (by simp) (by omega)
          replace e0 : w3.cell? ⟨r, 0, none⟩ = some (.int .i64 sp0.tr) := by simpa [Sp.cells] using e0
          clear ho0 hr hb0 p0 p1 p2 p3 p4 p5 p6 p7 p8 p9 p10 p11 HL
          have n1 : r ≠ w3.heap.size := by omega
          have hlen : (sp0 :: sps).length = sps.length + 1 := rfl
          go_wp2_with fail
          obtain ⟨wt, rfl⟩ : ∃ wt : World, wt = wr := ⟨_, rfl⟩
          have hbw : Below wt.heap.size wt (w3.alloc (.cells #[.int .i64 sp0.tr, .int .i64 1, .slice (some ⟨r, 0, none⟩) (sps.length + 1) cp0] 51)) := below_alloc HB0.out _
          have HB4 := Aside0.mk hbw
          have HO4 : Aside0 ((w3.alloc (.cells #[.int .i64 sp0.tr, .int .i64 1, .slice (some ⟨r, 0, none⟩) (sps.length + 1) cp0] 51)).ownsRow wt.heap.size 56 14 (.slice (some ⟨r, 0, none⟩) (sps.length + 1) cp0) (sps.length + 1) (spc (mid f (sp0 :: sps) 0))) := ⟨by rw [mid_zero]; exact pw_own_below HO0.out (below_alloc (Below.refl _ _) _)⟩
          have HV4 := Aside0.mk (blk_new w3 (.cells #[.int .i64 sp0.tr, .int .i64 1, .slice (some ⟨r, 0, none⟩) (sps.length + 1) cp0] 51))
          have hbig : sps.length + 1 ≤ 9223372036854775807 := by
            rcases HO0.out.2 with ⟨_, h⟩ | ⟨_, cap, _, _, _, _, h1, h2, _⟩
            · simp at h
            · have h3 : (sp0 :: sps).length = sps.length + 1 := rfl
              have h4 : maxLen ≤ 9223372036854775807 := by decide
              omega
          clear hbw HO0 HR0 HB0 e0 hlen
          obtain ⟨bx, hbx⟩ : ∃ b, b = w3.heap.size := ⟨_, rfl⟩
          rw [← hbx] at HV4 n1 ⊢
          have HBX := Aside0.mk hbx
          clear hbx
          go_loopg [46] (sps.length + 1) (fun gg s46 w4 => ∃ (m : Nat), m ≤ sps.length + 1 ∧ sps.length + 1 - m ≤ gg ∧ s46 = .int .i64 m ∧ Aside0 (w4.ownsRow wt.heap.size 56 14 (.slice (some ⟨r, 0, none⟩) (sps.length + 1) cp0) (sps.length + 1) (spc (mid f (sp0 :: sps) m))) ∧ Aside0 (w4.heap[bx]? = some (.cells #[.int .i64 sp0.tr, .int .i64 1, .slice (some ⟨r, 0, none⟩) (sps.length + 1) cp0] 51 (0, 0))) ∧ Aside0 (Below wt.heap.size wt w4))
          case atStart => exact ⟨0, by omega, by omega, by rfl, HO4, HV4, HB4⟩
          case round =>
            clear HO4 HV4 HB4
            obtain ⟨m, hm, hgm, rfl, HO4, HV4, HB4⟩ := hrel
            have q2 : wr.cell? ⟨bx, 2, none⟩ = some (.slice (some ⟨r, 0, none⟩) (sps.length + 1) cp0) := (blk_cell HV4.out 2).trans rfl
            by_cases hlt : m < sps.length + 1
            · have g1 : decide ((m : Int) < (sps.length : Int) + 1) = true := by simp; omega
              have g2 : (m : Int) < (sps.length : Int) + 1 := by omega
              have g3 : (m : Int) < ((sps.length + 1 : Nat) : Int) := by omega
              have s3 : IntKind.i64.wrap ((m : Int) + 1) = (m : Int) + 1 := IntWalk.i64_in _ (by omega)
              go_wp2_with fail
              have hml : (mid f (sp0 :: sps) m).length = sps.length + 1 := mid_len f (sp0 :: sps) m
              have ho' : wr.ownsRow wt.heap.size 56 14 (.slice (some ⟨r, 0, none⟩) (mid f (sp0 :: sps) m).length cp0) (mid f (sp0 :: sps) m).length (spc (mid f (sp0 :: sps) m)) := by rw [hml]; exact HO4.out
              have hbW := below_step HB.out HB4.out
              have hc := HSH.out wr r cp0 wt.heap.size m (mid f (sp0 :: sps) m) (by omega) hbW hbW HB.out.size HB4.out.size ho'
              rw [mid_get f (sp0 :: sps) m hlt, mid_set f (sp0 :: sps) m hlt, hml] at hc
              refine hc.mono ?_
              rintro e w5 ⟨rfl, ho5, hb5, hk5⟩
              have hbxw : bx < wr.heap.size := blk_lt HV4.out
              have HV5 := Aside0.mk ((hk5 bx hbxw (Ne.symm n1)).trans HV4.out)
              have HO5 := Aside0.mk ho5
              have HB5 := Aside0.mk (HB4.out.trans hb5)
              clear ho5 hb5 hk5 hc ho' hbW hml q2 HO4 HV4 HB4
              go_wp2_with fail
              go_roundg (sps.length + 1 - (m + 1))
              case measure => omega
              case rel => exact ⟨m + 1, by omega, Nat.le_refl _, by go_num, HO5, HV5, HB5⟩
            · obtain rfl : m = sps.length + 1 := by omega
              have g1 : decide (((sps.length + 1 : Nat) : Int) < (sps.length : Int) + 1) = false := by simp
              have q0 : wr.cell? ⟨bx, 0, none⟩ = some (.int .i64 sp0.tr) := (blk_cell HV4.out 0).trans rfl
              have q1 : wr.cell? ⟨bx, 1, none⟩ = some (.int .i64 1) := (blk_cell HV4.out 1).trans rfl
              have hO := HO4.out
              have hlen : mid f (sp0 :: sps) (sps.length + 1) = (sp0 :: sps).map f := mid_end f (sp0 :: sps)
              rw [hlen] at hO
              have HO5 := Aside0.mk (own_base hO HB.out.size)
              have HT5 := Aside0.mk (HT.out.below HB4.out)
              have HO6 := Aside0.mk (pw_own_below HO.out HB4.out)
              have HX5 := Aside0.mk (blk_below HX.out HB4.out)
              have HB5 := Aside0.mk (below_step HB.out HB4.out)
              have hxl : xs.length < 100000 := by
                have h1 := congrArg List.length HM.out
                rw [List.length_map] at h1
                omega
              clear hO hlen HO4 HV4 HB4 HT HO HX HB
              have hbase : w.heap.size ≤ wr.heap.size := HB5.out.size
              have q2 : wr.cell? ⟨bx, 2, none⟩ = some (.slice (some ⟨r, 0, none⟩) (sps.length + 1) cp0) := q2
              go_wp2_with (at_builtin; go_must (refine print_append_cells (w0 := w) w.heap.size rfl _ _ 43 51 _ 3 40 rfl Try.underlying43 info51 rfl (by decide) (by decide) (.slice A xs.length cp) xs.length (trc xs) [.int .i64 sp0.tr, .int .i64 1, .slice (some ⟨r, 0, none⟩) (sps.length + 1) cp0] rfl ?c4 rfl ?c1 HO6.out HB5.out ?c2 ?c3 ?_; (case c1 => intro u hu; simp at hu; rcases hu with rfl | rfl | rfl <;> rfl); (case c4 => show Value.slice (some ⟨wr.heap.size, 0, none⟩) 1 1 = _; first | rfl | simp); (case c2 => first | omega | (simp; omega)); (case c3 => first | omega | (simp; omega)); intro v1 w1 hown1 hb1 hg1 hat1; obtain ⟨A1', cp1, rfl⟩ := own_slice hown1; have HW := Aside0.mk hown1; have HG := Aside0.mk hg1; have HB6 := Aside0.mk hb1; clear hown1 hg1 hb1 hat1))
              have hkeep : ∀ (b : Nat) (cur : Array Value) (ty : TypeId), ty ≠ 51 → wr.heap[b]? = some (Obj.cells cur ty (0, 0)) → w1.heap[b]? = wr.heap[b]? := fun b cur ty hty hb => HG.out.block b (blk_lt hb) (fun e => by
                obtain ⟨cells, hc⟩ := own_typed HO6.out b e.symm
                rw [hb] at hc
                injection hc with hc
                injection hc with _ h2
                exact hty h2)
              have HT7 : Aside0 (TsR w1 w.heap.size (xs ++ [(⟨sp0.tr, (sp0 :: sps).map f⟩, .slice (some ⟨r, 0, none⟩) (sps.length + 1) cp0)])) := ⟨fun x hx => by
                rcases List.mem_append.mp hx with hx | hx
                · exact own_keep (HT5.out x hx) (fun b cur hb => hkeep b cur 56 (by decide) hb)
                · obtain rfl := List.mem_singleton.mp hx
                  have h9 := own_keep HO5.out (fun b cur hb => hkeep b cur 56 (by decide) hb)
                  simpa using h9⟩
              have HX7 := Aside0.mk ((hkeep _ _ 31 (by decide) HX5.out).trans HX5.out)
              have HO7 : Aside0 (w1.ownsRow w.heap.size 51 3 (.slice A1' (xs ++ [((⟨sp0.tr, (sp0 :: sps).map f⟩ : Tr), Value.slice (some ⟨r, 0, none⟩) (sps.length + 1) cp0)]).length cp1) (xs ++ [((⟨sp0.tr, (sp0 :: sps).map f⟩ : Tr), Value.slice (some ⟨r, 0, none⟩) (sps.length + 1) cp0)]).length (trc (xs ++ [((⟨sp0.tr, (sp0 :: sps).map f⟩ : Tr), Value.slice (some ⟨r, 0, none⟩) (sps.length + 1) cp0)]))) := ⟨by
                rw [trc_snoc, List.length_append]
                exact HW.out⟩
              have HM7 : Aside0 ((xs ++ [((⟨sp0.tr, (sp0 :: sps).map f⟩ : Tr), Value.slice (some ⟨r, 0, none⟩) (sps.length + 1) cp0)]).map (·.1) = acc ++ [⟨sp0.tr, (sp0 :: sps).map f⟩]) := ⟨by
                rw [List.map_append, HM.out]
                rfl⟩
              go_roundg i
              case measure => omega
              case rel => exact ⟨i, kk + 1, _, _, cp1, A1', by rw [List.length_append]; rfl, by go_num, Nat.le_refl _, HI1, by omega, HK', HM7, HO7, HT7, HB6, HX7⟩
end Go.Proofs.Ytdadnapfecmmdaa.P
namespace Go.Proofs.Ytdadnapfecmmdaa.P
set_option linter.unusedVariables false
set_option linter.unusedSimpArgs false
open Go.RowKit Go.Proofs.YtdadnapfecmmdaaW.PrintWords Go.Proofs.YtdadnapfecmmdaaW.PrintLast Go.Proofs.YtdadnapfecmmdaaW.PrintMore
def toS (s : Sp) : S56 := ⟨s.tr, s.id, s.par, s.rev, s.clk, s.kind, s.svc, s.ver, s.op, s.st, s.en, s.err, [], []⟩
def toT (x : Tr) : S51 := ⟨x.id, 1, x.l.map toS⟩
theorem spc_at (l : List Sp) (j : Nat) (hj : j < l.length) : ((spc l).drop (j * 14)).take 14 = l[j].cells := by
  apply List.ext_getElem?
  intro i
  rw [List.getElem?_take]
  split
  · rename_i h
    rw [List.getElem?_drop, spc_get l j i hj h]
  · rename_i h
    rw [List.getElem?_eq_none (by rw [Sp.cells_len]; omega)]
theorem spc_reps (w : World) (l : List Sp) : Reps (k56.K w) 14 (l.map toS) (spc l) := by
  refine ⟨by rw [spc_len, List.length_map], fun j p hj => ?_⟩
  rw [List.getElem?_map] at hj
  obtain ⟨s, hs, rfl⟩ := Option.map_eq_some_iff.mp hj
  obtain ⟨hl, rfl⟩ := List.getElem?_eq_some_iff.mp hs
  rw [spc_at l j hl]
  exact k56_mk w (toS l[j]) (A12 := none) (c12 := 0) (Nat.le_refl _) ⟨rfl, by simp [toS], fun h => absurd h (by simp [toS])⟩ (A13 := none) (c13 := 0) (Nat.le_refl _) ⟨rfl, by simp [toS], fun h => absurd h (by simp [toS])⟩
theorem own_le {w : World} {b : Nat} {e : TypeId} {sz n m : Nat} {A : Option Addr} {c : Nat} {xs : List Value} (h : w.ownsRow b e sz (.slice A n c) m xs) : n ≤ c := by
  rcases h.2 with ⟨h, _⟩ | ⟨g, cap, cur, h1, _, _, h4, _⟩
  · injection h; omega
  · injection h1; omega
theorem spc_reads {w : World} {b : Nat} {v : Value} {l : List Sp} (h : w.ownsRow b 56 14 v l.length (spc l)) : ∃ A c, v = .slice A (l.map toS).length c ∧ (l.map toS).length ≤ c ∧ Kd.C k56 w A (l.map toS).length (l.map toS) := by
  obtain ⟨A, c, rfl, hr⟩ := own_reads_row h (spc_reps w l) (by simp)
  rw [List.length_map]
  exact ⟨A, c, rfl, own_le h, hr⟩
theorem trc_at (xs : List (Tr × Value)) : ∀ j, (hj : j < xs.length) → ((trc xs).drop (j * 3)).take 3 = [.int .i64 xs[j].1.id, .int .i64 1, xs[j].2] := by
  induction xs with
  | nil => intro j hj; simp at hj
  | cons x r ih =>
    intro j hj
    match j with
    | 0 => simp [trc]
    | j + 1 =>
      simp only [trc, List.getElem_cons_succ]
      rw [show (j + 1) * 3 = j * 3 + 3 from by omega]
      have := ih j (by simpa using hj)
      simpa using this
theorem trc_len (xs : List (Tr × Value)) : (trc xs).length = xs.length * 3 := by
  induction xs with
  | nil => rfl
  | cons x r ih => simp only [trc, List.length_append, List.length_cons, List.length_nil, ih]; omega
theorem trc_reps {w : World} {b : Nat} {xs : List (Tr × Value)} (h : TsR w b xs) : Reps (k51.K w) 3 (xs.map fun x => toT x.1) (trc xs) := by
  refine ⟨by rw [trc_len, List.length_map], fun j p hj => ?_⟩
  rw [List.getElem?_map] at hj
  obtain ⟨x, hs, rfl⟩ := Option.map_eq_some_iff.mp hj
  obtain ⟨hl, rfl⟩ := List.getElem?_eq_some_iff.mp hs
  rw [trc_at xs j hl]
  obtain ⟨A, c, e, hc, hr⟩ := spc_reads (h xs[j] (List.getElem_mem hl))
  rw [e]
  exact k51_mk w (toT xs[j].1) hc hr
theorem TsOut.reads {w : World} {b : Nat} {ts : List Tr} {v : Value} (h : TsOut b w ts v) : ∃ A c, v = .slice A (ts.map toT).length c ∧ (ts.map toT).length ≤ c ∧ Kd.C k51 w A (ts.map toT).length (ts.map toT) := by
  obtain ⟨xs, rfl, ho, hr⟩ := h
  obtain ⟨A, c, rfl, hc⟩ := own_reads_row ho (trc_reps hr) (by simp)
  have e : (xs.map (·.1)).map toT = xs.map fun x => toT x.1 := by simp
  rw [e, List.length_map]
  exact ⟨A, c, rfl, own_le ho, hc⟩
end Go.Proofs.Ytdadnapfecmmdaa.P
namespace Go.Proofs.Ytdadnapfecmmdaa.P
set_option linter.unusedVariables false
set_option linter.unusedSimpArgs false
open Go.RowKit Go.Proofs.YtdadnapfecmmdaaW.PrintWords Go.Proofs.YtdadnapfecmmdaaW.PrintLast Go.Proofs.YtdadnapfecmmdaaW.PrintMore
open Go.Proofs.Ytdadnapfecmmdaa.Hm
set_option maxHeartbeats 1000000 in
theorem mindex_calls (c : Cfg) (p : CfgAt) (name : ByteArray) (w : World) (hR : CfgR w p c) : Calls Try.prog 17 #[c.val p, .string name] w fun e w' => e = .returned (.int .i64 (svIdx c.sv name)) ∧ Below w.heap.size w w' := by
  obtain ⟨A1, c1, A2, c2, A3, c3, A4, c4⟩ := p
  have HR := Aside0.mk hR.r1
  have hn : c.sv.length ≤ 9223372036854775807 := hR.r1.2.1
  have HX0 := Aside0.mk (blk_new w (.cells (c.cells ⟨A1, c1, A2, c2, A3, c3, A4, c4⟩) 31))
  have HB0 := Aside0.mk (below_alloc (Below.refl w.heap.size w) (.cells (c.cells ⟨A1, c1, A2, c2, A3, c3, A4, c4⟩) 31))
  clear hR
  go_enter Try.func17, Try.ntmps17
  go_wp2_with fail
  go_loopg [5] c.sv.length (fun gg s5 wr => ∃ i : Nat, i ≤ c.sv.length ∧ c.sv.length - i ≤ gg ∧ s5 = .int .i64 (i : Int) ∧ Aside0 (wr.heap[w.heap.size]? = some (.cells (c.cells ⟨A1, c1, A2, c2, A3, c3, A4, c4⟩) 31 (0, 0))) ∧ Aside0 (Below w.heap.size w wr) ∧ Aside0 (∀ j (_ : j < i) (hj : j < c.sv.length), (c.sv[j].f0.toList == name.toList) = false))
  case atStart => exact ⟨0, Nat.zero_le _, by omega, rfl, HX0, HB0, ⟨fun j hj => absurd hj (Nat.not_lt_zero _)⟩⟩
  case round =>
  clear HX0 HB0
  obtain ⟨i, hi, hgi, rfl, HX, HB, AN⟩ := hrel
  have q1 : wr.cell? ⟨w.heap.size, 1, none⟩ = some (.slice A1 c.sv.length c1) := (blk_cell HX.out 1).trans rfl
  by_cases hlt : i < c.sv.length
  · obtain ⟨ad, A5, c5, e, h0, _⟩ := at_T64 HR.out (i : Int) (by omega) (by omega)
    subst e
    rw [rd_T64_get c.sv i hlt] at h0
    simp only [Int.toNat_natCast] at h0
    replace h0 := (HB.out.cell (World.block_lt_of_cell? w _ h0)).trans h0
    have hltz : (i : Int) < (c.sv.length : Int) := by omega
    generalize hy : c.sv[i] = y at h0
    have B := Aside0.mk hy
    clear hy
    cases hq : (y.f0.toList == name.toList) with
    | true =>
      go_wp2_with fail
      go_ret
      refine ⟨?_, HB.out⟩
      have e : svIdx c.sv name = (i : Int) := idxBy_hit (fun x : S64 => x.f0.toList == name.toList) c.sv i hlt (by rw [B.out]; exact hq) (fun j hj => AN.out j hj (by omega))
      rw [e]
      rfl
    | false =>
      go_wp2_with fail
      go_roundg (c.sv.length - (i + 1))
      case rel => exact ⟨i + 1, by omega, Nat.le_refl _, by first | rfl | go_num, HX, HB, ⟨fun j hj hjl => by
        by_cases hjk : j < i
        · exact AN.out j hjk hjl
        · obtain rfl : j = i := by omega
          rw [B.out]; exact hq⟩⟩
      case measure => omega
  · obtain rfl : i = c.sv.length := by omega
    go_wp2_with fail
    go_ret
    refine ⟨?_, HB.out⟩
    have e : svIdx c.sv name = -1 := idxBy_none (fun x : S64 => x.f0.toList == name.toList) c.sv (fun j hj => AN.out j hj hj)
    rw [e]
    rfl
theorem bad_calls (n a b : Int) (w : World) : Calls Try.prog 52 #[.int .i64 n, .int .i64 a, .int .i64 b] w fun e w' => e = .returned (.bool (bad n a b)) ∧ Below w.heap.size w w' := by
  refine (outside_calls n a b w).mono ?_
  rintro e w' ⟨rfl, nd, rfl⟩
  exact ⟨rfl, pw_below_drewN (Below.refl _ _) nd⟩
theorem ranged_calls (n a b : Int) (w : World) : Calls Try.prog 47 #[.int .i64 n, .int .i64 a, .int .i64 b] w fun e w' => e = .returned (.bool (!bad n a b)) ∧ Below w.heap.size w w' := by
  unfold bad
  by_cases h : a ≤ n
  · have h1 : decide (a ≤ n) = true := decide_eq_true h
    have h2 : (!decide (n < a ∨ b < n)) = decide (n ≤ b) := by
      by_cases h3 : n ≤ b
      · rw [decide_eq_true h3, decide_eq_false (by omega)]; rfl
      · rw [decide_eq_false h3, decide_eq_true (by omega)]; rfl
    rw [h2]
    go_enter Try.func47, Try.ntmps47
    go_wp2_with fail
    go_ret
    exact ⟨by rfl, by repeat (first | exact Below.refl _ _ | apply pw_below_drewN | exact (Below.refl _ _).drew)⟩
  · have h1 : decide (a ≤ n) = false := decide_eq_false h
    have h2 : (!decide (n < a ∨ b < n)) = false := by rw [decide_eq_true (by omega)]; rfl
    rw [h2]
    go_enter Try.func47, Try.ntmps47
    go_wp2_with fail
    go_ret
    exact ⟨by rfl, by repeat (first | exact Below.refl _ _ | apply pw_below_drewN | exact (Below.refl _ _).drew)⟩
theorem svIdx_own (l : List S64) (i : Nat) (h : i < l.length) : svIdx l (rd_T64 l i).f0 ≤ i ∧ 0 ≤ svIdx l (rd_T64 l i).f0 := by
  rw [rd_T64_get l i h]
  unfold svIdx idxBy
  cases hf : l.findIdx? (fun x : S64 => x.f0.toList == l[i].f0.toList) with
  | none =>
    rw [List.findIdx?_eq_none_iff] at hf
    have := hf l[i] (List.getElem_mem h)
    simp at this
  | some k =>
    rw [List.findIdx?_eq_some_iff_getElem] at hf
    obtain ⟨hk, _, h2⟩ := hf
    refine ⟨?_, by simp⟩
    have : ¬ i < k := fun hik => by
      have := h2 i hik
      simp at this
    show (k : Int) ≤ i
    omega
theorem first2 (a b : Nat → Int) (n m : Nat) (R : Int) (hR : R = if fstE a n = 0 then fstE b m else fstE a n) :
    (∀ i, i < n → (∀ j, j < i → a j = 0) → a i ≠ 0 → R = a i) ∧ ((∀ j, j < n → a j = 0) → ∀ i, i < m → (∀ j, j < i → b j = 0) → b i ≠ 0 → R = b i) ∧ ((∀ j, j < n → a j = 0) → (∀ j, j < m → b j = 0) → R = 0) := by
  refine ⟨fun i hi h he => ?_, fun h0 i hi h he => ?_, fun h0 h => ?_⟩
  · have e := fstE_hit a i h he n hi
    rw [hR, e, if_neg he]
  · rw [hR, if_pos (fstE_zero a n h0), fstE_hit b i h he m hi]
  · rw [hR, if_pos (fstE_zero a n h0), fstE_zero b m h]
theorem ext0 (a : Nat → Int) (i : Nat) (h : ∀ j, j < i → a j = 0) (he : a i = 0) : ∀ j, j < i + 1 → a j = 0 := fun j hj => by
  by_cases hji : j < i
  · exact h j hji
  · obtain rfl : j = i := by omega
    exact he
end Go.Proofs.Ytdadnapfecmmdaa.P
namespace Go.Proofs.Ytdadnapfecmmdaa.P
set_option linter.unusedVariables false
set_option linter.unusedSimpArgs false
open Go.RowKit Go.Proofs.YtdadnapfecmmdaaW.PrintWords Go.Proofs.YtdadnapfecmmdaaW.PrintLast Go.Proofs.YtdadnapfecmmdaaW.PrintMore

theorem eqA100 (d : Nat) (w : World) (x0 y0 : Int) (x1 y1 : Int) (x2 y2 : Int) (x3 y3 : ByteArray) (x4 y4 : ByteArray) (x5 y5 : ByteArray) :
    (Op.equalIn (d + 2) 100 (.agg #[.int .i64 x0, .int .i64 x1, .int .i64 x2, .string x3, .string x4, .string x5]) (.agg #[.int .i64 y0, .int .i64 y1, .int .i64 y2, .string y3, .string y4, .string y5])).run Try.prog w = .ok (x0 == y0 && (x1 == y1 && (x2 == y2 && (x3.toList == y3.toList && (x4.toList == y4.toList && (x5.toList == y5.toList)))))) w := by
  refine eqA_of Try.underlying100 (by kernel_rfl) ?_
  refine eqf_cons (by rfl) (by go_simp; rfl) (by go_simp; rfl) (by go_simp) ?_
  refine eqf_cons (by rfl) (by go_simp; rfl) (by go_simp; rfl) (by go_simp) ?_
  refine eqf_cons (by rfl) (by go_simp; rfl) (by go_simp; rfl) (by go_simp) ?_
  refine eqf_cons (by rfl) (by go_simp; rfl) (by go_simp; rfl) (by go_simp) ?_
  refine eqf_cons (by rfl) (by go_simp; rfl) (by go_simp; rfl) (by go_simp) ?_
  exact eqf_last (by rfl) (by go_simp; rfl) (by go_simp; rfl) (by go_simp)
attribute [local go_sem high] eqA100
def nmW : ByteArray := ⟨#[119, 101, 98]⟩
def nmA : ByteArray := ⟨#[97, 112, 105]⟩
def nmD : ByteArray := ⟨#[100, 98]⟩
def nmC : ByteArray := ⟨#[99, 97, 99, 104, 101]⟩
def nm4 : Nat → ByteArray
  | 0 => nmW
  | 1 => nmA
  | 2 => nmD
  | _ => nmC
structure Plan where
  seed : Int
  parts : List S87
  o0 : Int
  o1 : Int
  o2 : Int
  steps : List S93
  trs : List S59
  first : Int
  slots : Int
  per : Int
  delay : Int
  chunk : Int
  loss : Int
  rep : Int
structure PlanAt where
  A1 : Option Addr
  c1 : Nat
  A2 : Option Addr
  c2 : Nat
  A3 : Option Addr
  c3 : Nat
abbrev Plan.cells (p : Plan) (a : PlanAt) : Array Value := #[.int .u8 p.seed, .slice a.A1 p.parts.length a.c1, .int .i8 p.o0, .int .i8 p.o1, .int .i8 p.o2, .slice a.A2 p.steps.length a.c2, .slice a.A3 p.trs.length a.c3, .int .u8 p.first, .int .u8 p.slots, .int .u8 p.per, .int .u8 p.delay, .int .u8 p.chunk, .int .u8 p.loss, .int .u8 p.rep]
def bitOf (b : Int) (k : Nat) : Bool := decide (b / 2 ^ k % 2 = 1)
def callsOf (n i : Nat) (b : Int) (k : Nat) : List ByteArray := ((List.range k).filter fun j => decide (i + 1 + j < n) && bitOf b j).map fun j => nm4 (i + 1 + j)
def svOf (n i : Nat) (x : S87) : S64 := ⟨nm4 i, 1 + x.f0 % 3, x.f1 % 20, x.f2 % 10, x.f3 % 4 * 1000000 / 4, callsOf n i x.f4 3⟩
def Plan.ps (p : Plan) : List S87 := if p.parts = [] then [z87] else p.parts
def Plan.n (p : Plan) : Nat := min p.ps.length 4
def Plan.sv (p : Plan) : List S64 := (List.range p.n).map fun i => svOf p.n i (rd_T87 p.ps i)

end Go.Proofs.Ytdadnapfecmmdaa.P
