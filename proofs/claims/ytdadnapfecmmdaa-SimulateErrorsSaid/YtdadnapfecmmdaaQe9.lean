/- Own texts of a proof about layer 55's simulate (merged): Hu, Hv, PF79, PF51, PF52. -/
import Derived.Test.YtdadnapfecmmdaaQe2
import Derived.Test.YtdadnapfecmmdaaQe8
import Derived.Laws.EntriesVeiled
namespace Go.Proofs.Ytdadnapfecmmdaa.P
set_option linter.unusedVariables false
set_option linter.unusedSimpArgs false
open Go.RowKit Go.Proofs.YtdadnapfecmmdaaW.PrintWords Go.Proofs.YtdadnapfecmmdaaW.PrintLast Go.Proofs.YtdadnapfecmmdaaW.PrintMore
open Go.Proofs.Ytdadnapfecmmdaa.Hm
def smC (l : List S64) : List (ByteArray × SvV) := l.foldl (fun m x => mput m x.f0 ⟨x, none, 0⟩) []
theorem smC_snoc (l : List S64) (x : S64) : smC (l ++ [x]) = mput (smC l) x.f0 ⟨x, none, 0⟩ := by simp [smC]
def sameX (a b : List (ByteArray × SvV)) : Prop := ∀ k, (mget a k).map (·.x) = (mget b k).map (·.x)
theorem sameX.put {a b : List (ByteArray × SvV)} (h : sameX a b) (k : ByteArray) (u v : SvV) (e : u.x = v.x) : sameX (mput a k u) (mput b k v) := by
  intro j
  by_cases hj : j = k
  · subst hj
    simp [mget_put_same, e]
  · rw [mget_put_other _ _ _ _ hj, mget_put_other _ _ _ _ hj]
    exact h j
theorem serveV_same (c : Cfg) (slot t : Int) (a b : List (ByteArray × SvV)) (hab : sameX a b) : ∀ n, serveV c slot t a n = serveV c slot t b n
  | 0 => by
    funext name parent x l
    simp [serveV]
  | n + 1 => by
    funext name parent x l
    unfold serveV
    rw [serveV_same c slot t a b hab n]
    have h := hab name
    cases ha : mget a name with
    | none =>
      rw [ha] at h
      cases hb : mget b name with
      | none => rfl
      | some v => rw [hb] at h; cases h
    | some u =>
      rw [ha] at h
      cases hb : mget b name with
      | none => rw [hb] at h; cases h
      | some v =>
        rw [hb] at h
        obtain ⟨ux, uA, uc⟩ := u
        obtain ⟨vx, vA, vc⟩ := v
        obtain rfl : ux = vx := by simpa using h
        rfl
def traceV (n : Nat) (c : Cfg) (slot k : Int) : Option (List Sp) :=
  match c.sv with
  | [] => none
  | x :: _ => if 0 ≤ slot ∧ slot ≤ 1048576 ∧ 0 ≤ k ∧ k ≤ 1048576 ∧ 0 ≤ c.delay ∧ c.delay ≤ 1048576 then (serveV c slot (slot * 1048576 + 1 + k) (smC c.sv) n x.f0 0 (1000 * slot + 7 * k) []).map (·.2.2) else none
def traceT.T12 : Bool × List (List Nat × List Nat) := (true, [([], []), ([], []), ([1], [1]), ([2], [2]), ([3], [3]), ([4], [4]), ([], []), ([6], [6]), ([], []), ([8], [8]), ([7, 9], [7, 9]), ([0, 5, 10], [0, 5, 10])])
def traceT.B12 : List Nat := [0, 0, 2, 6, 14, 30, 0, 64, 0, 256, 960, 2047]
theorem traceT.tab12 : rtab .any (opsOf Try.f68 12) = traceT.T12 := by kernel_rfl
theorem traceT.bits12 : waitsOk traceT.T12.2 traceT.B12 = true := by kernel_rfl
theorem two_blocks (w : World) (o0 o1 : Obj) : ((w.alloc o0).alloc o1).heap[w.heap.size]? = some o0 ∧ ((w.alloc o0).alloc o1).heap[w.heap.size + 1]? = some o1 ∧ ((w.alloc o0).alloc o1).heap.size = w.heap.size + 1 + 1 := by
  have z : ∀ (u : World) (o : Obj), (u.alloc o).heap.size = u.heap.size + 1 := fun u o => by simp
  have n1 := blk_new (w.alloc o0) o1
  simp only [z] at n1
  exact ⟨blk_alloc (blk_new w o0) _, n1, by simp only [z]⟩
structure TrB (wr : World) (bc bl bt g bm bs : Nat) (c : Cfg) (p : CfgAt) (slot t : Int) : Prop where
  c : wr.heap[bc]? = some (.cells (c.cells p) 31 (0, 0))
  l : wr.heap[bl]? = some (.cells #[.int .i64 slot] 3 (0, 0))
  t : wr.heap[bt]? = some (.cells #[.int .i64 t] 3 (0, 0))
  g : wr.heap[g]? = some (.cells #[.slice none 0 0] 49 (0, 0))
  s : wr.heap[bs]? = some (.cells #[.map (some bm)] 156 (0, 0))
theorem TrB.below {wr w2 : World} {bc bl bt g bm bs : Nat} {c : Cfg} {p : CfgAt} {slot t : Int} (h : TrB wr bc bl bt g bm bs c p slot t) (hb : Below wr.heap.size wr w2) : TrB w2 bc bl bt g bm bs c p slot t :=
  ⟨blk_below h.c hb, blk_below h.l hb, blk_below h.t hb, blk_below h.g hb, blk_below h.s hb⟩
theorem TrB.grown {wr w2 : World} {bc bl bt g bm bs : Nat} {c : Cfg} {p : CfgAt} {slot t : Int} (h : TrB wr bc bl bt g bm bs c p slot t) (hb : wr.grownBy w2 (some bm)) (n1 : bc ≠ bm) (n2 : bl ≠ bm) (n3 : bt ≠ bm) (n4 : g ≠ bm) (n5 : bs ≠ bm) : TrB w2 bc bl bt g bm bs c p slot t :=
  ⟨blk_grown h.c hb (by simpa using n1), blk_grown h.l hb (by simpa using n2), blk_grown h.t hb (by simpa using n3), blk_grown h.g hb (by simpa using n4), blk_grown h.s hb (by simpa using n5)⟩
theorem six_blocks (w : World) (o0 o1 o2 o3 o4 o5 : Obj) : ((((((w.alloc o0).alloc o1).alloc o2).alloc o3).alloc o4).alloc o5).heap[w.heap.size]? = some o0 ∧ ((((((w.alloc o0).alloc o1).alloc o2).alloc o3).alloc o4).alloc o5).heap[w.heap.size + 1]? = some o1 ∧
    ((((((w.alloc o0).alloc o1).alloc o2).alloc o3).alloc o4).alloc o5).heap[w.heap.size + 1 + 1]? = some o2 ∧ ((((((w.alloc o0).alloc o1).alloc o2).alloc o3).alloc o4).alloc o5).heap[w.heap.size + 1 + 1 + 1]? = some o3 ∧
    ((((((w.alloc o0).alloc o1).alloc o2).alloc o3).alloc o4).alloc o5).heap[w.heap.size + 1 + 1 + 1 + 1]? = some o4 ∧ ((((((w.alloc o0).alloc o1).alloc o2).alloc o3).alloc o4).alloc o5).heap[w.heap.size + 1 + 1 + 1 + 1 + 1]? = some o5 ∧
    ((((((w.alloc o0).alloc o1).alloc o2).alloc o3).alloc o4).alloc o5).heap.size = w.heap.size + 1 + 1 + 1 + 1 + 1 + 1 := by
  have z : ∀ (u : World) (o : Obj), (u.alloc o).heap.size = u.heap.size + 1 := fun u o => by simp
  have n1 := blk_new (w.alloc o0) o1
  have n2 := blk_new ((w.alloc o0).alloc o1) o2
  have n3 := blk_new (((w.alloc o0).alloc o1).alloc o2) o3
  have n4 := blk_new ((((w.alloc o0).alloc o1).alloc o2).alloc o3) o4
  have n5 := blk_new (((((w.alloc o0).alloc o1).alloc o2).alloc o3).alloc o4) o5
  simp only [z] at n1 n2 n3 n4 n5
  exact ⟨blk_alloc (blk_alloc (blk_alloc (blk_alloc (blk_alloc (blk_new w o0) _) _) _) _) _, blk_alloc (blk_alloc (blk_alloc (blk_alloc n1 _) _) _) _, blk_alloc (blk_alloc (blk_alloc n2 _) _) _, blk_alloc (blk_alloc n3 _) _, blk_alloc n4 _, n5, by simp only [z]⟩
set_option maxHeartbeats 8000000 in
set_option maxRecDepth 100000 in
theorem trace_calls (n : Nat) (c : Cfg) (p : CfgAt) (slot k : Int) (w : World) (r : List Sp) (hR : CfgR w p c) (h : traceV n c slot k = some r) :
    Calls Try.prog 68 #[c.val p, .int .i64 slot, .int .i64 k] w fun e w' => ∃ v, e = .returned v ∧ w'.ownsRow w.heap.size 56 14 v r.length (spc r) ∧ Below w.heap.size w w' := by
  unfold traceV at h
  obtain ⟨x0, sv', hsv⟩ : ∃ x0 sv', c.sv = x0 :: sv' := by
    cases hs : c.sv with
    | nil => rw [hs] at h; cases h
    | cons a b => exact ⟨a, b, rfl⟩
  rw [hsv] at h
  dsimp only at h
  by_cases hg : 0 ≤ slot ∧ slot ≤ 1048576 ∧ 0 ≤ k ∧ k ≤ 1048576 ∧ 0 ≤ c.delay ∧ c.delay ≤ 1048576
  case neg => rw [if_neg hg] at h; cases h
  rw [if_pos hg] at h
  obtain ⟨hs0, hs1, hk0, hk1, hd0, hd1⟩ := hg
  rw [← hsv] at h
  have hx0 : c.sv[0]? = some x0 := by rw [hsv]; rfl
  have hlen0 : 0 < c.sv.length := by rw [hsv]; simp
  clear hsv sv'
  have HA := Aside0.mk h
  have HX0 := Aside0.mk hx0
  have hbig : c.sv.length ≤ 9223372036854775807 := hR.r1.2.1
  have HR := Aside0.mk hR
  clear h hx0 hR
  obtain ⟨A1, c1, A2, c2, A3, c3, A4, c4⟩ := p
  have hmm := @run_makeMap Try.prog
  have s1 : IntKind.i64.wrap (1000 * slot) = 1000 * slot := IntWalk.i64_in _ (by omega)
  have s2 : IntKind.i64.wrap (7 * k) = 7 * k := IntWalk.i64_in _ (by omega)
  have s3 : IntKind.i64.wrap (1000 * slot + 7 * k) = 1000 * slot + 7 * k := IntWalk.i64_in _ (by omega)
  have s4 : IntKind.i64.wrap (slot * 1048576) = slot * 1048576 := IntWalk.i64_in _ (by omega)
  have s5 : IntKind.i64.wrap (slot * 1048576 + 1) = slot * 1048576 + 1 := IntWalk.i64_in _ (by omega)
  have s6 : IntKind.i64.wrap (slot * 1048576 + 1 + k) = slot * 1048576 + 1 + k := IntWalk.i64_in _ (by omega)
  go_enter Try.func68, Try.ntmps68
  go_wp2_with fail
  obtain ⟨k0, k1, k2, k3, k4, k5, k6⟩ := six_blocks w (.cells (c.cells ⟨A1, c1, A2, c2, A3, c3, A4, c4⟩) 31) (.cells #[.int .i64 slot] 3) (.cells #[.int .i64 (slot * 1048576 + 1 + k)] 3) (.cells #[.slice none 0 0] 49) (.map #[] 0) (.cells #[.map (some (w.heap.size + 1 + 1 + 1 + 1))] 156)
  have kb : Below w.heap.size w ((((((w.alloc (.cells (c.cells ⟨A1, c1, A2, c2, A3, c3, A4, c4⟩) 31)).alloc (.cells #[.int .i64 slot] 3)).alloc (.cells #[.int .i64 (slot * 1048576 + 1 + k)] 3)).alloc (.cells #[.slice none 0 0] 49)).alloc (.map #[] 0)).alloc (.cells #[.map (some (w.heap.size + 1 + 1 + 1 + 1))] 156)) :=
    below_alloc (below_alloc (below_alloc (below_alloc (below_alloc (below_alloc (Below.refl _ _) _) _) _) _) _) _
  unfold Cfg.cells at k0 k1 k2 k3 k4 k5 k6 kb
  dsimp only at k0 k1 k2 k3 k4 k5 k6 kb
  obtain ⟨bs, hbs⟩ : ∃ b, b = w.heap.size + 1 + 1 + 1 + 1 + 1 := ⟨_, rfl⟩
  rw [← hbs] at k5 k6 ⊢
  obtain ⟨bm, hbm⟩ : ∃ b, b = w.heap.size + 1 + 1 + 1 + 1 := ⟨_, rfl⟩
  rw [← hbm] at k0 k1 k2 k3 k4 k5 k6 kb hbs ⊢
  obtain ⟨g, hg⟩ : ∃ b, b = w.heap.size + 1 + 1 + 1 := ⟨_, rfl⟩
  rw [← hg] at k3 hbm ⊢
  obtain ⟨bt, hbt⟩ : ∃ b, b = w.heap.size + 1 + 1 := ⟨_, rfl⟩
  rw [← hbt] at k2 hg ⊢
  obtain ⟨bl, hbl⟩ : ∃ b, b = w.heap.size + 1 := ⟨_, rfl⟩
  rw [← hbl] at k1 hbt ⊢
  generalize ((((((w.alloc _).alloc _).alloc _).alloc _).alloc _).alloc _) = W0 at *
  have HT := Aside0.mk (TrB.mk (p := ⟨A1, c1, A2, c2, A3, c3, A4, c4⟩) k0 k1 k2 k3 k5 : TrB W0 w.heap.size bl bt g bm bs c ⟨A1, c1, A2, c2, A3, c3, A4, c4⟩ slot (slot * 1048576 + 1 + k))
  have HM := Aside0.mk (⟨#[], 0, k4, rfl⟩ : MapIs W0 bm Value.string svVal ([] : List (ByteArray × SvV)))
  have HB := Aside0.mk kb
  have HN := Aside0.mk (And.intro hbs (And.intro hbm (And.intro hg (And.intro hbt (And.intro hbl k6)))))
  clear k0 k1 k2 k3 k4 k5 kb hbs hbm hg hbt hbl k6
  go_loopg [23] c.sv.length (fun gg s23 wr => ∃ (i : Nat) (sm : List (ByteArray × SvV)), i ≤ c.sv.length ∧ c.sv.length - i ≤ gg ∧ s23 = .int .i64 i ∧ Aside0 (sameX sm (smC (c.sv.take i))) ∧ Aside0 (∀ nm sv, mget sm nm = some sv → Kd.C Kd.string w sv.A sv.x.f5.length sv.x.f5) ∧ Aside0 (MapIs wr bm Value.string svVal sm) ∧ Aside0 (TrB wr w.heap.size bl bt g bm bs c ⟨A1, c1, A2, c2, A3, c3, A4, c4⟩ slot (slot * 1048576 + 1 + k)) ∧ Aside0 (Below w.heap.size w wr) ∧ Aside0 (bs < wr.heap.size))
  case atStart => exact ⟨0, [], by omega, by omega, by rfl, ⟨fun _ => rfl⟩, ⟨fun _ _ h => by cases h⟩, HM, HT, HB, ⟨by have := HN.out.2.2.2.2.2; omega⟩⟩
  case round =>
    clear HM HT HB
    obtain ⟨i, sm, hi, hgi, rfl, HS, HK, HM, HT, HB, HZ⟩ := hrel
    by_cases hlt : i < c.sv.length
    · have g0 : decide ((i : Int) < (c.sv.length : Int)) = true := by simpa using hlt
      obtain ⟨ad, A5, c5, e, h0, h1, h2, h3, h4, h5, l5, k5⟩ := at_T64 HR.out.r1 (i : Int) (by omega) (by omega)
      cases e
      rw [rd_T64_get c.sv i hlt] at h0 h1 h2 h3 h4 h5 l5 k5
      simp only [Int.toNat_natCast] at h0 h1 h2 h3 h4 h5
      replace h0 := (HB.out.cell (World.block_lt_of_cell? w _ h0)).trans h0
      replace h1 := (HB.out.cell (World.block_lt_of_cell? w _ h1)).trans h1
      replace h2 := (HB.out.cell (World.block_lt_of_cell? w _ h2)).trans h2
      replace h3 := (HB.out.cell (World.block_lt_of_cell? w _ h3)).trans h3
      replace h4 := (HB.out.cell (World.block_lt_of_cell? w _ h4)).trans h4
      replace h5 := (HB.out.cell (World.block_lt_of_cell? w _ h5)).trans h5
      have hT := HS.out
      have hs := smC_snoc (c.sv.take i) c.sv[i]
      rw [List.take_append_getElem hlt] at hs
      generalize c.sv[i] = x at h0 h1 h2 h3 h4 h5 l5 k5 hs
      have HS' := Aside0.mk (show sameX (mput sm x.f0 ⟨x, A5, c5⟩) (smC (c.sv.take (i + 1))) from hs ▸ hT.put x.f0 _ _ rfl)
      have HK' := Aside0.mk (show ∀ nm sv, mget (mput sm x.f0 ⟨x, A5, c5⟩) nm = some sv → Kd.C Kd.string w sv.A sv.x.f5.length sv.x.f5 from fun nm sv h => by
        by_cases hn : nm = x.f0
        · subst hn
          rw [mget_put_same] at h
          cases h
          exact k5
        · rw [mget_put_other _ _ _ _ hn] at h
          exact HK.out nm sv h)
      clear hT hs k5 l5
      have q0 : wr.cell? ⟨bs, 0, none⟩ = some (.map (some bm)) := (blk_cell HT.out.s 0).trans rfl
      have hbs1 : bs < wr.heap.size := HZ.out
      have n1 : bs ≠ wr.heap.size := by omega
      go_wp2_with (first | (at_mapUpdate; refine wp_store rfl _ _ _ rfl Try.underlying156 Try.underlying9 enc_string (HM.out.alloc _) rfl _ (⟨x, A5, c5⟩ : SvV) rfl rfl ?_; intro w3 hm3 hg3))
      have hn := HN.out
      have ha : Below wr.heap.size wr (wr.alloc (.cells #[.string x.f0, .int .i64 x.f1, .int .i64 x.f2, .int .i64 x.f3, .int .i64 x.f4, .slice A5 x.f5.length c5] 64)) := below_alloc (Below.refl _ _) _
      have hsz : bs < w3.heap.size := Nat.lt_of_lt_of_le hbs1 (Nat.le_trans ha.size hg3.size)
      go_roundg (c.sv.length - (i + 1))
      case measure => omega
      case rel => exact ⟨i + 1, mput sm x.f0 ⟨x, A5, c5⟩, by omega, Nat.le_refl _, by go_num, HS', HK', ⟨hm3⟩, ⟨(HT.out.below ha).grown hg3 (by omega) (by omega) (by omega) (by omega) (by omega)⟩, ⟨(below_step HB.out ha).grown hg3 (Nat.le_trans HB.out.size ha.size) (fun z hz => by simp at hz; omega)⟩, ⟨hsz⟩⟩
    · obtain rfl : i = c.sv.length := by omega
      have g0 : decide ((c.sv.length : Int) < (c.sv.length : Int)) = false := by simp
      rw [List.take_length] at HS
      clear hi hgi hlt
      go_wp2_with fail
      obtain ⟨e0, e1, e2⟩ := two_blocks wr (.cells #[.func (.func 85) #[] #[pv g, pv bt]] 157) (.cells #[.func (.func 86) #[] #[pv bs, pv w.heap.size, pv bl, pv wr.heap.size, pv bt, pv (wr.heap.size + 1), pv g]] 158)
      have eb : Below wr.heap.size wr ((wr.alloc (.cells #[.func (.func 85) #[] #[pv g, pv bt]] 157)).alloc (.cells #[.func (.func 86) #[] #[pv bs, pv w.heap.size, pv bl, pv wr.heap.size, pv bt, pv (wr.heap.size + 1), pv g]] 158)) := below_alloc (below_alloc (Below.refl _ _) _) _
      unfold pv at e0 e1 e2 eb
      obtain ⟨bv, hbv⟩ : ∃ b, b = wr.heap.size + 1 := ⟨_, rfl⟩
      rw [← hbv] at e0 e1 e2 eb ⊢
      generalize (wr.alloc _).alloc _ = W1 at e0 e1 e2 eb ⊢
      obtain ⟨hn1, hn2, hn3, hn4, hn5, hn6⟩ := HN.out
      have hzz := HZ.out
      have HT1 := HT.out.below eb
      have HE := Aside0.mk (⟨HT1.s, HM.out.below eb, HT1.c, HT1.l, e0, HT1.t, e1, by omega, by omega, by omega, by omega, by omega, by omega, by omega, by omega, Nat.le_trans HB.out.size eb.size⟩ : EnvR W1 bs bm w.heap.size bl wr.heap.size bt bv g w.heap.size c ⟨A1, c1, A2, c2, A3, c3, A4, c4⟩ slot (slot * 1048576 + 1 + k) sm)
      have HS1 : Aside0 (SpR W1 g w.heap.size []) := ⟨⟨.slice none 0 0, HT1.g, rfl, .inl ⟨rfl, rfl⟩⟩⟩
      have HB1 := Aside0.mk (below_step HB.out eb)
      have hA := HA.out
      rw [← serveV_same c slot _ sm (smC c.sv) HS.out n] at hA
      obtain ⟨⟨r1, r2, l'⟩, hq, hq2⟩ := Option.map_eq_some_iff.mp hA
      obtain rfl : l' = r := hq2
      have HC := Aside0.mk hq
      clear hA hq HA HT1 hn1 hn2 hn3 hn4 hn5 hn6 hzz
      obtain ⟨bb, hbb⟩ : ∃ b, b = wr.heap.size := ⟨_, rfl⟩
      rw [← hbb] at HE e0 e1 ⊢
      obtain ⟨ad, A5, c5, e, h0, _⟩ := at_T64 HR.out.r1 (0 : Int) (by omega) (by omega)
      have hx : rd_T64 c.sv 0 = x0 := by
        have h9 := HX0.out
        have h8 := rd_T64_get c.sv 0 hlen0
        rw [List.getElem?_eq_getElem hlen0] at h9
        exact h8.trans (Option.some.inj h9)
      rw [hx, show ad.add ((0 : Int).toNat * 6) = ad from by simp [Addr.add]] at h0
      replace h0 := (HB1.out.cell (World.block_lt_of_cell? w _ h0)).trans h0
      cases e
      have q0 : W1.cell? ⟨bv, 0, none⟩ = some (.func (.func 86) #[] #[pv bs, pv w.heap.size, pv bl, pv bb, pv bt, pv bv, pv g]) := (blk_cell HE.out.v 0).trans rfl
      have q1 : W1.cell? ⟨w.heap.size, 1, none⟩ = some (.slice (some ad) c.sv.length c1) := (blk_cell HE.out.c 1).trans rfl
      have q2 : W1.cell? ⟨bl, 0, none⟩ = some (.int .i64 slot) := (blk_cell HE.out.l 0).trans rfl
      have p1 : (0 : Int) < (c.sv.length : Int) := by omega
      clear hbb hbv e0 e1 e2 eb hx
      go_wp2_with fail
      refine start_ (n := 12) (S := fun w' => Below W1.heap.size W1 w') (ds := [11]) #[false, false, false, false, false, false, false, false, false, false, false, false] (by kernel_rfl) rfl rfl (Below.refl _ _).drew (fun hHeld => ?_)
      refine with_tabW traceT.tab12 traceT.bits12 (fun HT_ HW_ => ?_)
      generalize W1.drew = wd at hHeld ⊢
      refine take_ (i := 0) (N := some 34) (v := ?_) (a' := ?_) #[true, false, false, false, false, false, false, false, false, false, false, false] rfl rfl (take_ofW HT_.out HW_.out (by kernel_rfl)) (fun _ _ _ h => h) (Or.inl ⟨by rfl, ?_⟩) hHeld ?_ ?_
      rotate_left
      · intro w' hS
        replace q0 := (hS.cell (World.block_lt_of_cell? _ _ q0)).trans q0
        replace q1 := (hS.cell (World.block_lt_of_cell? _ _ q1)).trans q1
        replace q2 := (hS.cell (World.block_lt_of_cell? _ _ q2)).trans q2
        replace h0 := (hS.cell (World.block_lt_of_cell? _ _ h0)).trans h0
        go_simp
        with_reducible rfl
      rotate_left
      · simp only [Act.put, List.setIfInBounds_toArray, List.set_cons_zero, List.set_cons_succ, i64_w, i32_w]
        rfl
      refine pure_ (i := 1) (N := some 35) (v := ?_) (a' := ?_) #[true, true, false, false, false, false, false, false, false, false, false, false] rfl rfl (any_of HT_.out (by kernel_rfl)) (fun _ _ _ h => h) (Or.inl ⟨by rfl, ?_⟩) ?_ ?_
      rotate_left
      · intro w'
        go_simp
        with_reducible rfl
      rotate_left
      · simp only [Act.put, List.setIfInBounds_toArray, List.set_cons_zero, List.set_cons_succ, i64_w, i32_w]
        rfl
      refine take_ (i := 2) (N := some 36) (v := ?_) (a' := ?_) #[true, true, true, false, false, false, false, false, false, false, false, false] rfl rfl (take_ofW HT_.out HW_.out (by kernel_rfl)) (fun _ _ _ h => h) (Or.inl ⟨by rfl, ?_⟩) hHeld ?_ ?_
      rotate_left
      · intro w' hS
        replace q0 := (hS.cell (World.block_lt_of_cell? _ _ q0)).trans q0
        replace q1 := (hS.cell (World.block_lt_of_cell? _ _ q1)).trans q1
        replace q2 := (hS.cell (World.block_lt_of_cell? _ _ q2)).trans q2
        replace h0 := (hS.cell (World.block_lt_of_cell? _ _ h0)).trans h0
        go_simp
        with_reducible rfl
      rotate_left
      · simp only [Act.put, List.setIfInBounds_toArray, List.set_cons_zero, List.set_cons_succ, i64_w, i32_w]
        rfl
      refine pure_ (i := 3) (N := some 37) (v := ?_) (a' := ?_) #[true, true, true, true, false, false, false, false, false, false, false, false] rfl rfl (any_of HT_.out (by kernel_rfl)) (fun _ _ _ h => h) (Or.inl ⟨by rfl, ?_⟩) ?_ ?_
      rotate_left
      · intro w'
        go_simp
        with_reducible rfl
      rotate_left
      · simp only [Act.put, List.setIfInBounds_toArray, List.set_cons_zero, List.set_cons_succ, i64_w, i32_w]
        rfl
      refine pure_ (i := 4) (N := some 38) (v := ?_) (a' := ?_) #[true, true, true, true, true, false, false, false, false, false, false, false] rfl rfl (any_of HT_.out (by kernel_rfl)) (fun _ _ _ h => h) (Or.inl ⟨by rfl, ?_⟩) ?_ ?_
      rotate_left
      · intro w'
        go_simp
        with_reducible rfl
      rotate_left
      · simp only [Act.put, List.setIfInBounds_toArray, List.set_cons_zero, List.set_cons_succ, i64_w, i32_w]
        rfl
      refine take_ (i := 5) (N := some 39) (v := ?_) (a' := ?_) #[true, true, true, true, true, true, false, false, false, false, false, false] rfl rfl (take_ofW HT_.out HW_.out (by kernel_rfl)) (fun _ _ _ h => h) (Or.inl ⟨by rfl, ?_⟩) hHeld ?_ ?_
      rotate_left
      · intro w' hS
        replace q0 := (hS.cell (World.block_lt_of_cell? _ _ q0)).trans q0
        replace q1 := (hS.cell (World.block_lt_of_cell? _ _ q1)).trans q1
        replace q2 := (hS.cell (World.block_lt_of_cell? _ _ q2)).trans q2
        replace h0 := (hS.cell (World.block_lt_of_cell? _ _ h0)).trans h0
        go_simp
        with_reducible rfl
      rotate_left
      · simp only [Act.put, List.setIfInBounds_toArray, List.set_cons_zero, List.set_cons_succ, i64_w, i32_w]
        rfl
      refine take_ (i := 6) (N := some 40) (v := ?_) (a' := ?_) #[true, true, true, true, true, true, true, false, false, false, false, false] rfl rfl (take_ofW HT_.out HW_.out (by kernel_rfl)) (fun _ _ _ h => h) (Or.inl ⟨by rfl, ?_⟩) hHeld ?_ ?_
      rotate_left
      · intro w' hS
        replace q0 := (hS.cell (World.block_lt_of_cell? _ _ q0)).trans q0
        replace q1 := (hS.cell (World.block_lt_of_cell? _ _ q1)).trans q1
        replace q2 := (hS.cell (World.block_lt_of_cell? _ _ q2)).trans q2
        replace h0 := (hS.cell (World.block_lt_of_cell? _ _ h0)).trans h0
        go_simp
        with_reducible rfl
      rotate_left
      · simp only [Act.put, List.setIfInBounds_toArray, List.set_cons_zero, List.set_cons_succ, i64_w, i32_w]
        rfl
      refine pure_ (i := 7) (N := some 41) (v := ?_) (a' := ?_) #[true, true, true, true, true, true, true, true, false, false, false, false] rfl rfl (any_of HT_.out (by kernel_rfl)) (fun _ _ _ h => h) (Or.inl ⟨by rfl, ?_⟩) ?_ ?_
      rotate_left
      · intro w'
        go_simp
        with_reducible rfl
      rotate_left
      · simp only [Act.put, List.setIfInBounds_toArray, List.set_cons_zero, List.set_cons_succ, i64_w, i32_w]
        rfl
      refine pure_ (i := 8) (N := some 42) (v := ?_) (a' := ?_) #[true, true, true, true, true, true, true, true, true, false, false, false] rfl rfl (any_of HT_.out (by kernel_rfl)) (fun _ _ _ h => h) (Or.inl ⟨by rfl, ?_⟩) ?_ ?_
      rotate_left
      · intro w'
        go_simp
        with_reducible rfl
      rotate_left
      · simp only [Act.put, List.setIfInBounds_toArray, List.set_cons_zero, List.set_cons_succ, i64_w, i32_w]
        rfl
      refine pure_ (i := 9) (N := some 43) (v := ?_) (a' := ?_) #[true, true, true, true, true, true, true, true, true, true, false, false] rfl rfl (any_of HT_.out (by kernel_rfl)) (fun _ _ _ h => h) (Or.inl ⟨by rfl, ?_⟩) ?_ ?_
      rotate_left
      · intro w'
        go_simp
        with_reducible rfl
      rotate_left
      · simp only [Act.put, List.setIfInBounds_toArray, List.set_cons_zero, List.set_cons_succ, i64_w, i32_w]
        rfl
      refine pure_ (i := 10) (N := some 44) (v := ?_) (a' := ?_) #[true, true, true, true, true, true, true, true, true, true, true, false] rfl rfl (any_of HT_.out (by kernel_rfl)) (fun _ _ _ h => h) (Or.inl ⟨by rfl, ?_⟩) ?_ ?_
      rotate_left
      · intro w'
        go_simp
        with_reducible rfl
      rotate_left
      · simp only [Act.put, List.setIfInBounds_toArray, List.set_cons_zero, List.set_cons_succ, i64_w, i32_w]
        rfl
      refine last_ (i := 11) (N := some 45) #[true, true, true, true, true, true, true, true, true, true, true, true] rfl rfl (one_of HT_.out (by kernel_rfl)) (by decide) (fun K hK => ?_)
      refine call_ 86 #[.string x0.f0, .int .i64 0, .int .i64 (1000 * slot + 7 * k), pv bs, pv w.heap.size, pv bl, pv bb, pv bt, pv bv, pv g] (by rfl) rfl ?_ ?_
      · have he := enters_ (P := Try.prog) Try.func86 (by kernel_rfl) rfl #[.string x0.f0, .int .i64 0, .int .i64 (1000 * slot + 7 * k), pv bs, pv w.heap.size, pv bl, pv bb, pv bt, pv bv, pv g] wd
        unfold execOp
        simp [resolve, Deferred.ofValue, invoke, Act.eval, he]
      refine (serve_calls w bs bm w.heap.size bl bb bt bv g c ⟨some ad, c1, A2, c2, A3, c3, A4, c4⟩ slot (slot * 1048576 + 1 + k) sm HR.out hd0 hd1 HK.out n x0.f0 0 (1000 * slot + 7 * k) [] wd r1 r2 _ HC.out (HE.out.keep (KeepT.of_below hHeld g)) (HS1.out.below hHeld) (below_step HB1.out hHeld)).mono ?_
      rintro e w5 ⟨rfl, hs5, hk5, hb5⟩
      refine ⟨_, rfl, ?_⟩
      have HS7 := Aside0.mk hs5
      have CB7 := Aside0.mk hb5
      clear hs5 hk5 hb5
      refine hK.out _ _ ?_
      clear hK K
      refine norm_ (a' := ?_) ?_ ?_
      rotate_left
      · show Act.put _ (some 45) _ = _
        simp only [Act.put, List.setIfInBounds_toArray, List.set_cons_zero, List.set_cons_succ, i64_w, i32_w]
        rfl
      refine done_ (done_of HT_.out (by kernel_rfl)) ?_
      obtain ⟨v, hv, hown⟩ := HS7.out
      have q9 : w5.cell? ⟨g, 0, none⟩ = some v := (blk_cell hv 0).trans rfl
      have HO := Aside0.mk hown
      clear hv hown HS7 q0 q1 q2 h0
      go_wp2_with fail
      go_ret
      exact ⟨v, rfl, HO.out, CB7.out⟩
def shiftSp (off : List S91) (s : Sp) : Sp := { s with st := wrap64 (s.st + (offOf off s.clk).1), en := wrap64 (s.en + (offOf off s.clk).1) }
def Shows (fid : Nat) (caps : Array Value) (f : Sp → Sp) (base : Nat) (w0 : World) (ok : World → Prop) : Prop :=
  (∀ (args : Array Value) (w : World), (callFunc fid args).run Try.prog w = .ok (.enter fid args) w) ∧
  ∀ (W : World) (r cp b j : Nat) (l : List Sp) (hj : j < l.length), ok W → Below base w0 W → base ≤ b → b ≤ W.heap.size → W.ownsRow b 56 14 (.slice (some ⟨r, 0, none⟩) l.length cp) l.length (spc l) →
    Calls Try.prog fid (#[.pointer (some ⟨r, j * 14, none⟩)] ++ caps) W fun e w' => e = .returned (.tuple #[]) ∧ w'.ownsRow b 56 14 (.slice (some ⟨r, 0, none⟩) l.length cp) l.length (spc (l.set j (f l[j]))) ∧ Below b W w' ∧ ∀ i, i < W.heap.size → i ≠ r → w'.heap[i]? = W.heap[i]?
theorem truth_shows (base : Nat) (w0 : World) : Shows 41 #[] id base w0 (fun _ => True) := by
  refine ⟨fun args w => enters_ Try.func41 (by kernel_rfl) rfl args w, fun W r cp b j l hj _ _ _ _ ho => ?_⟩
  have HO := Aside0.mk ho
  clear ho
  simp only [Array.append_empty]
  go_enter Try.func41, Try.ntmps41
  go_wp2_with fail
  go_returns
  refine ⟨by rfl, ?_, Below.refl _ _, fun _ _ _ => rfl⟩
  simpa using HO.out
theorem own_cell56 {W : World} {b r cp : Nat} {l : List Sp} (ho : W.ownsRow b 56 14 (.slice (some ⟨r, 0, none⟩) l.length cp) l.length (spc l)) (j i : Nat) (hj : j < l.length) (hi : i < 14) : W.cell? ⟨r, j * 14 + i, none⟩ = (l[j].cells)[i]? ∧ W.frozen? ⟨r, j * 14 + i, none⟩ = false ∧ b ≤ r ∧ r < W.heap.size := by
  rcases ho.2 with ⟨_, h⟩ | ⟨r', cap, cur, e, hb, hr, h1, h2, h3, h4⟩
  · omega
  · injection e with e
    injection e with e
    injection e with e
    subst e
    have hc : ∀ i, i < l.length * 14 → cur[i]? = (spc l)[i]? := fun i hi => by
      rw [← h4, List.getElem?_take, if_pos hi, Array.getElem?_toList]
    exact ⟨by rw [blk_cell hr, hc _ (by omega), spc_get l j i hj hi], blk_frozen hr _, hb, blk_lt hr⟩
theorem own_shift {W : World} {b r cp : Nat} {l : List Sp} (ho : W.ownsRow b 56 14 (.slice (some ⟨r, 0, none⟩) l.length cp) l.length (spc l)) (j : Nat) (hj : j < l.length) (st en : Int) :
    ((W.setCell ⟨r, j * 14 + 9, none⟩ (.int .i64 st)).setCell ⟨r, j * 14 + 10, none⟩ (.int .i64 en)).ownsRow b 56 14 (.slice (some ⟨r, 0, none⟩) l.length cp) l.length (spc (l.set j { l[j] with st := st, en := en })) := by
  obtain ⟨o1, g1⟩ := ho.stored (j * 14 + 9) (.int .i64 st)
  obtain ⟨o2, g2⟩ := o1.stored (j * 14 + 10) (.int .i64 en)
  rw [spc_set l j 9 (.int .i64 st) { l[j] with st := st } hj (by omega) rfl] at o1 o2
  rw [spc_set (l.set j { l[j] with st := st }) j 10 (.int .i64 en) { l[j] with st := st, en := en } (by simpa using hj) (by omega) (by simp [Sp.cells])] at o2
  simpa using o2
def showT.T0 : Bool × List (List Nat × List Nat) := (true, [([], []), ([], []), ([1], [1]), ([2], [2]), ([3], [3]), ([0, 4], [0, 4]), ([5], [5]), ([6], [6]), ([6], [6]), ([7, 5, 0, 1, 2, 3, 4, 5, 6, 7], [7]), ([8, 9, 0, 1, 2, 3, 4, 5, 6, 7, 8, 9], [8])])
def showT.B0 : List Nat := [0, 0, 2, 6, 14, 31, 63, 127, 127, 255, 1023]
theorem showT.tab0 : rtab .any (opsOf Try.f37 0) = showT.T0 := by kernel_rfl
theorem showT.bits0 : waitsOk showT.T0.2 showT.B0 = true := by kernel_rfl
def showT.T1 : Bool × List (List Nat × List Nat) := (true, [([], []), ([], []), ([], []), ([2], [2]), ([3], [3]), ([4], [4]), ([], []), ([5, 6], [5, 6]), ([], []), ([8], [8]), ([9], [9]), ([10], [10]), ([], []), ([11, 12], [11, 12]), ([0, 0, 2, 3, 4, 5, 6, 7, 11], [0]), ([14, 0, 2, 3, 4, 5, 6, 7, 11], [14]), ([15, 7, 0, 2, 3, 4, 5, 6, 7, 11], [7, 15]), ([1, 0, 1, 2, 3, 4, 5, 6, 7, 8, 9, 10, 11, 12, 13, 14, 15, 16], [1]), ([17, 0, 1, 2, 3, 4, 5, 6, 7, 8, 9, 10, 11, 12, 13, 14, 15, 16], [17]), ([18, 13, 16, 0, 1, 2, 3, 4, 5, 6, 7, 8, 9, 10, 11, 12, 13, 14, 15, 16], [13, 18])])
def showT.B1 : List Nat := [0, 0, 0, 4, 12, 28, 0, 124, 0, 256, 768, 1792, 0, 7936, 4093, 20477, 53245, 131071, 262143, 524287]
theorem showT.tab1 : rtab .any (opsOf Try.f37 1) = showT.T1 := by kernel_rfl
theorem showT.bits1 : waitsOk showT.T1.2 showT.B1 = true := by kernel_rfl
set_option maxHeartbeats 8000000 in
set_option maxRecDepth 100000 in
theorem traces_shows (w0 : World) (c : Cfg) (p : CfgAt) (bx : Nat) (hR : CfgR w0 p c) : Shows 37 #[pv bx] (shiftSp c.off) w0.heap.size w0 (fun W => W.heap[bx]? = some (.cells (c.cells p) 31 (0, 0))) := by
  refine ⟨fun args w => enters_ Try.func37 (by kernel_rfl) rfl args w, fun W r cp b j l hj hC hB hbb hbW ho => ?_⟩
  obtain ⟨e4, _, hbr, hrW⟩ := own_cell56 ho j 4 hj (by omega)
  have CR := Aside0.mk (hR.below hB)
  have HO := Aside0.mk ho
  have HC := Aside0.mk hC
  obtain ⟨A1, c1, A2, c2, A3, c3, A4, c4⟩ := p
  have q0 : W.cell? ⟨r, j * 14 + 4, none⟩ = some (.int .i64 l[j].clk) := e4
  have q1 : W.cell? ⟨bx, 0, none⟩ = some (.int .i64 c.seed) := (blk_cell HC.out 0).trans rfl
  have q2 : W.cell? ⟨bx, 1, none⟩ = some (.slice A1 c.sv.length c1) := (blk_cell HC.out 1).trans rfl
  have q3 : W.cell? ⟨bx, 2, none⟩ = some (.slice A2 c.off.length c2) := (blk_cell HC.out 2).trans rfl
  have q4 : W.cell? ⟨bx, 3, none⟩ = some (.slice A3 c.ch.length c3) := (blk_cell HC.out 3).trans rfl
  have q5 : W.cell? ⟨bx, 4, none⟩ = some (.slice A4 c.fl.length c4) := (blk_cell HC.out 4).trans rfl
  have q6 : W.cell? ⟨bx, 5, none⟩ = some (.int .i64 c.sfrom) := (blk_cell HC.out 5).trans rfl
  have q7 : W.cell? ⟨bx, 6, none⟩ = some (.int .i64 c.sto) := (blk_cell HC.out 6).trans rfl
  have q8 : W.cell? ⟨bx, 7, none⟩ = some (.int .i64 c.per) := (blk_cell HC.out 7).trans rfl
  have q9 : W.cell? ⟨bx, 8, none⟩ = some (.int .i64 c.delay) := (blk_cell HC.out 8).trans rfl
  have q10 : W.cell? ⟨bx, 9, none⟩ = some (.int .i64 c.chunk) := (blk_cell HC.out 9).trans rfl
  have q11 : W.cell? ⟨bx, 10, none⟩ = some (.int .i64 c.loss) := (blk_cell HC.out 10).trans rfl
  have q12 : W.cell? ⟨bx, 11, none⟩ = some (.int .i64 c.rep) := (blk_cell HC.out 11).trans rfl
  have EO := Aside0.mk (show shiftSp c.off l[j] = { l[j] with st := wrap64 (l[j].st + (offOf c.off l[j].clk).1), en := wrap64 (l[j].en + (offOf c.off l[j].clk).1) } from rfl)
  clear ho hC e4 hB hR
  simp only [List.append_toArray, List.cons_append, List.nil_append]
  go_enter Try.func37, Try.ntmps37
  go_wp2_with fail
  refine start_ (n := 11) (S := fun w' => Below W.heap.size W w') (ds := []) #[false, false, false, false, false, false, false, false, false, false, false] (by kernel_rfl) rfl rfl (Below.refl _ _).drew (fun hHeld => ?_)
  refine with_tabW showT.tab0 showT.bits0 (fun HT_ HW_ => ?_)
  generalize W.drew = wd at hHeld ⊢
  refine take_ (i := 0) (N := some 6) (v := ?_) (a' := ?_) #[true, false, false, false, false, false, false, false, false, false, false] rfl rfl (take_ofW HT_.out HW_.out (by kernel_rfl)) (fun _ _ _ h => h) (Or.inl ⟨by rfl, ?_⟩) hHeld ?_ ?_
  rotate_left
  · intro w' hS
    replace q0 := (hS.cell (World.block_lt_of_cell? _ _ q0)).trans q0
    replace q1 := (hS.cell (World.block_lt_of_cell? _ _ q1)).trans q1
    replace q2 := (hS.cell (World.block_lt_of_cell? _ _ q2)).trans q2
    replace q3 := (hS.cell (World.block_lt_of_cell? _ _ q3)).trans q3
    replace q4 := (hS.cell (World.block_lt_of_cell? _ _ q4)).trans q4
    replace q5 := (hS.cell (World.block_lt_of_cell? _ _ q5)).trans q5
    replace q6 := (hS.cell (World.block_lt_of_cell? _ _ q6)).trans q6
    replace q7 := (hS.cell (World.block_lt_of_cell? _ _ q7)).trans q7
    replace q8 := (hS.cell (World.block_lt_of_cell? _ _ q8)).trans q8
    replace q9 := (hS.cell (World.block_lt_of_cell? _ _ q9)).trans q9
    replace q10 := (hS.cell (World.block_lt_of_cell? _ _ q10)).trans q10
    replace q11 := (hS.cell (World.block_lt_of_cell? _ _ q11)).trans q11
    replace q12 := (hS.cell (World.block_lt_of_cell? _ _ q12)).trans q12
    go_simp
    with_reducible rfl
  rotate_left
  · simp only [Act.put, List.setIfInBounds_toArray, List.set_cons_zero, List.set_cons_succ, i64_w, i32_w]
    rfl
  refine pure_ (i := 1) (N := some 7) (v := ?_) (a' := ?_) #[true, true, false, false, false, false, false, false, false, false, false] rfl rfl (any_of HT_.out (by kernel_rfl)) (fun _ _ _ h => h) (Or.inl ⟨by rfl, ?_⟩) ?_ ?_
  rotate_left
  · intro w'
    go_simp
    with_reducible rfl
  rotate_left
  · simp only [Act.put, List.setIfInBounds_toArray, List.set_cons_zero, List.set_cons_succ, i64_w, i32_w]
    rfl
  refine pure_ (i := 2) (N := some 8) (v := ?_) (a' := ?_) #[true, true, true, false, false, false, false, false, false, false, false] rfl rfl (any_of HT_.out (by kernel_rfl)) (fun _ _ _ h => h) (Or.inl ⟨by rfl, ?_⟩) ?_ ?_
  rotate_left
  · intro w'
    go_simp
    with_reducible rfl
  rotate_left
  · simp only [Act.put, List.setIfInBounds_toArray, List.set_cons_zero, List.set_cons_succ, i64_w, i32_w]
    rfl
  refine pure_ (i := 3) (N := some 9) (v := ?_) (a' := ?_) #[true, true, true, true, false, false, false, false, false, false, false] rfl rfl (any_of HT_.out (by kernel_rfl)) (fun _ _ _ h => h) (Or.inl ⟨by rfl, ?_⟩) ?_ ?_
  rotate_left
  · intro w'
    go_simp
    with_reducible rfl
  rotate_left
  · simp only [Act.put, List.setIfInBounds_toArray, List.set_cons_zero, List.set_cons_succ, i64_w, i32_w]
    rfl
  refine take_ (i := 4) (N := some 10) (v := ?_) (a' := ?_) #[true, true, true, true, true, false, false, false, false, false, false] rfl rfl (take_ofW HT_.out HW_.out (by kernel_rfl)) (fun _ _ _ h => h) (Or.inl ⟨by rfl, ?_⟩) hHeld ?_ ?_
  rotate_left
  · intro w' hS
    replace q0 := (hS.cell (World.block_lt_of_cell? _ _ q0)).trans q0
    replace q1 := (hS.cell (World.block_lt_of_cell? _ _ q1)).trans q1
    replace q2 := (hS.cell (World.block_lt_of_cell? _ _ q2)).trans q2
    replace q3 := (hS.cell (World.block_lt_of_cell? _ _ q3)).trans q3
    replace q4 := (hS.cell (World.block_lt_of_cell? _ _ q4)).trans q4
    replace q5 := (hS.cell (World.block_lt_of_cell? _ _ q5)).trans q5
    replace q6 := (hS.cell (World.block_lt_of_cell? _ _ q6)).trans q6
    replace q7 := (hS.cell (World.block_lt_of_cell? _ _ q7)).trans q7
    replace q8 := (hS.cell (World.block_lt_of_cell? _ _ q8)).trans q8
    replace q9 := (hS.cell (World.block_lt_of_cell? _ _ q9)).trans q9
    replace q10 := (hS.cell (World.block_lt_of_cell? _ _ q10)).trans q10
    replace q11 := (hS.cell (World.block_lt_of_cell? _ _ q11)).trans q11
    replace q12 := (hS.cell (World.block_lt_of_cell? _ _ q12)).trans q12
    go_simp
    with_reducible rfl
  rotate_left
  · simp only [Act.put, List.setIfInBounds_toArray, List.set_cons_zero, List.set_cons_succ, i64_w, i32_w]
    rfl
  refine one_ (i := 5) (N := some 11) #[true, true, true, true, true, true, false, false, false, false, false] rfl rfl (one_of HT_.out (by kernel_rfl)) (by decide) (fun K hK => ?_)
  refine goes_ Try.func38 (by kernel_rfl) rfl #[c.val ⟨A1, c1, A2, c2, A3, c3, A4, c4⟩, .int .i64 l[j].clk] (by rfl) rfl rfl (by (try simp only [List.map_toArray, List.map_cons, List.map_nil]); first | done | rfl | (simp only [List.length_drop, List.length_take]; rfl)) ?_
  with_reducible refine (offset_calls c ⟨A1, c1, A2, c2, A3, c3, A4, c4⟩ l[j].clk _ (CR.out.below hHeld)).mono ?_
  rintro e wx ⟨rfl, hb⟩
  refine ⟨_, rfl, ?_⟩
  replace hHeld := below_step hHeld hb
  clear hb
  refine hK.out _ _ hHeld (fun hHeld => ?_)
  clear hK K
  refine norm_ (a' := ?_) ?_ ?_
  rotate_left
  · show Act.put _ (some 11) _ = _
    simp only [Act.put, List.setIfInBounds_toArray, List.set_cons_zero, List.set_cons_succ, i64_w, i32_w]
    rfl
  refine pure_ (i := 6) (N := some 5) (v := ?_) (a' := ?_) #[true, true, true, true, true, true, true, false, false, false, false] rfl rfl (any_of HT_.out (by kernel_rfl)) (fun _ _ _ h => h) (Or.inl ⟨by rfl, ?_⟩) ?_ ?_
  rotate_left
  · intro w'
    go_simp
    with_reducible rfl
  rotate_left
  · simp only [Act.put, List.setIfInBounds_toArray, List.set_cons_zero, List.set_cons_succ, i64_w, i32_w]
    rfl
  refine pure_ (i := 7) (N := some 12) (v := ?_) (a' := ?_) #[true, true, true, true, true, true, true, true, false, false, false] rfl rfl (any_of HT_.out (by kernel_rfl)) (fun _ _ _ h => h) (Or.inl ⟨by rfl, ?_⟩) ?_ ?_
  rotate_left
  · intro w'
    go_simp
    with_reducible rfl
  rotate_left
  · simp only [Act.put, List.setIfInBounds_toArray, List.set_cons_zero, List.set_cons_succ, i64_w, i32_w]
    rfl
  refine pure_ (i := 8) (N := some 13) (v := ?_) (a' := ?_) #[true, true, true, true, true, true, true, true, true, false, false] rfl rfl (any_of HT_.out (by kernel_rfl)) (fun _ _ _ h => h) (Or.inl ⟨by rfl, ?_⟩) ?_ ?_
  rotate_left
  · intro w'
    go_simp
    with_reducible rfl
  rotate_left
  · simp only [Act.put, List.setIfInBounds_toArray, List.set_cons_zero, List.set_cons_succ, i64_w, i32_w]
    rfl
  refine pure_ (i := 9) (N := some 3) (v := ?_) (a' := ?_) #[true, true, true, true, true, true, true, true, true, true, false] rfl rfl (any_of HT_.out (by kernel_rfl)) (fun _ _ _ h => h) (Or.inl ⟨by rfl, ?_⟩) ?_ ?_
  rotate_left
  · intro w'
    go_simp
    with_reducible rfl
  rotate_left
  · simp only [Act.put, List.setIfInBounds_toArray, List.set_cons_zero, List.set_cons_succ, i64_w, i32_w]
    rfl
  refine pure_ (i := 10) (N := some 4) (v := ?_) (a' := ?_) #[true, true, true, true, true, true, true, true, true, true, true] rfl rfl (any_of HT_.out (by kernel_rfl)) (fun _ _ _ h => h) (Or.inl ⟨by rfl, ?_⟩) ?_ ?_
  rotate_left
  · intro w'
    go_simp
    with_reducible rfl
  rotate_left
  · simp only [Act.put, List.setIfInBounds_toArray, List.set_cons_zero, List.set_cons_succ, i64_w, i32_w]
    rfl
  refine done_ (done_of HT_.out (by kernel_rfl)) ?_
  obtain ⟨off, hoff⟩ : ∃ o : Int, o = (offOf c.off l[j].clk).1 := ⟨_, rfl⟩
  rw [← hoff] at EO ⊢
  have HO1 := Aside0.mk (pw_own_below HO.out hHeld)
  have hd : Below wx.heap.size wx wx.drew := (Below.refl _ _).drew
  have HO2 := Aside0.mk (pw_own_below HO1.out hd)
  have HB2 := Aside0.mk ((below_step hHeld hd).mono hbW)
  have HB3 := Aside0.mk (below_step hHeld hd)
  obtain ⟨e9, _, _, _⟩ := own_cell56 HO1.out j 9 hj (by omega)
  obtain ⟨e10, _, _, _⟩ := own_cell56 HO1.out j 10 hj (by omega)
  obtain ⟨g9, f9, _, _⟩ := own_cell56 HO2.out j 9 hj (by omega)
  obtain ⟨g10, f10, _, _⟩ := own_cell56 HO2.out j 10 hj (by omega)
  replace e9 : wx.cell? ⟨r, j * 14 + 9, none⟩ = some (.int .i64 l[j].st) := e9
  replace e10 : wx.cell? ⟨r, j * 14 + 10, none⟩ = some (.int .i64 l[j].en) := e10
  replace g9 : wx.drew.cell? ⟨r, j * 14 + 9, none⟩ = some (.int .i64 l[j].st) := g9
  replace g10 : wx.drew.cell? ⟨r, j * 14 + 10, none⟩ = some (.int .i64 l[j].en) := g10
  clear hHeld hd hoff HO HO1 q0 q1 q2 q3 q4 q5 q6 q7 q8 q9 q10 q11 q12
  go_wp2_with fail
  refine start_ (n := 20) (S := fun w' => Below wx.heap.size wx w') (ds := [16, 19]) #[false, false, false, false, false, false, false, false, false, false, false, false, false, false, false, false, false, false, false, false] (by kernel_rfl) rfl rfl (Below.refl _ _).drew (fun hHeld => ?_)
  refine with_tabW showT.tab1 showT.bits1 (fun HT_ HW_ => ?_)
  generalize wx.drew = wz at hHeld HO2 HB2 HB3 g9 g10 f9 f10 ⊢
  refine with_tabW showT.tab1 showT.bits1 (fun HT_ HW_ => ?_)
  refine pure_ (i := 0) (N := some 14) (v := ?_) (a' := ?_) #[true, false, false, false, false, false, false, false, false, false, false, false, false, false, false, false, false, false, false, false] rfl rfl (any_of HT_.out (by kernel_rfl)) (fun _ _ _ h => h) (Or.inl ⟨by rfl, ?_⟩) ?_ ?_
  rotate_left
  · intro w'
    go_simp
    with_reducible rfl
  rotate_left
  · simp only [Act.put, List.setIfInBounds_toArray, List.set_cons_zero, List.set_cons_succ, i64_w, i32_w]
    rfl
  refine pure_ (i := 1) (N := some 15) (v := ?_) (a' := ?_) #[true, true, false, false, false, false, false, false, false, false, false, false, false, false, false, false, false, false, false, false] rfl rfl (any_of HT_.out (by kernel_rfl)) (fun _ _ _ h => h) (Or.inl ⟨by rfl, ?_⟩) ?_ ?_
  rotate_left
  · intro w'
    go_simp
    with_reducible rfl
  rotate_left
  · simp only [Act.put, List.setIfInBounds_toArray, List.set_cons_zero, List.set_cons_succ, i64_w, i32_w]
    rfl
  refine pure_ (i := 2) (N := some 16) (v := ?_) (a' := ?_) #[true, true, true, false, false, false, false, false, false, false, false, false, false, false, false, false, false, false, false, false] rfl rfl (any_of HT_.out (by kernel_rfl)) (fun _ _ _ h => h) (Or.inl ⟨by rfl, ?_⟩) ?_ ?_
  rotate_left
  · intro w'
    go_simp
    with_reducible rfl
  rotate_left
  · simp only [Act.put, List.setIfInBounds_toArray, List.set_cons_zero, List.set_cons_succ, i64_w, i32_w]
    rfl
  refine pure_ (i := 3) (N := some 17) (v := ?_) (a' := ?_) #[true, true, true, true, false, false, false, false, false, false, false, false, false, false, false, false, false, false, false, false] rfl rfl (any_of HT_.out (by kernel_rfl)) (fun _ _ _ h => h) (Or.inl ⟨by rfl, ?_⟩) ?_ ?_
  rotate_left
  · intro w'
    go_simp
    with_reducible rfl
  rotate_left
  · simp only [Act.put, List.setIfInBounds_toArray, List.set_cons_zero, List.set_cons_succ, i64_w, i32_w]
    rfl
  refine pure_ (i := 4) (N := some 18) (v := ?_) (a' := ?_) #[true, true, true, true, true, false, false, false, false, false, false, false, false, false, false, false, false, false, false, false] rfl rfl (any_of HT_.out (by kernel_rfl)) (fun _ _ _ h => h) (Or.inl ⟨by rfl, ?_⟩) ?_ ?_
  rotate_left
  · intro w'
    go_simp
    with_reducible rfl
  rotate_left
  · simp only [Act.put, List.setIfInBounds_toArray, List.set_cons_zero, List.set_cons_succ, i64_w, i32_w]
    rfl
  refine take_ (i := 5) (N := some 19) (v := ?_) (a' := ?_) #[true, true, true, true, true, true, false, false, false, false, false, false, false, false, false, false, false, false, false, false] rfl rfl (take_ofW HT_.out HW_.out (by kernel_rfl)) (fun _ _ _ h => h) (Or.inl ⟨by rfl, ?_⟩) hHeld ?_ ?_
  rotate_left
  · intro w' hS
    replace e9 := (hS.cell (World.block_lt_of_cell? _ _ e9)).trans e9
    replace e10 := (hS.cell (World.block_lt_of_cell? _ _ e10)).trans e10
    go_simp
    with_reducible rfl
  rotate_left
  · simp only [Act.put, List.setIfInBounds_toArray, List.set_cons_zero, List.set_cons_succ, i64_w, i32_w]
    rfl
  refine pure_ (i := 6) (N := some 20) (v := ?_) (a' := ?_) #[true, true, true, true, true, true, true, false, false, false, false, false, false, false, false, false, false, false, false, false] rfl rfl (any_of HT_.out (by kernel_rfl)) (fun _ _ _ h => h) (Or.inl ⟨by rfl, ?_⟩) ?_ ?_
  rotate_left
  · intro w'
    go_simp
    with_reducible rfl
  rotate_left
  · simp only [Act.put, List.setIfInBounds_toArray, List.set_cons_zero, List.set_cons_succ, i64_w, i32_w]
    rfl
  refine pure_ (i := 7) (N := some 21) (v := ?_) (a' := ?_) #[true, true, true, true, true, true, true, true, false, false, false, false, false, false, false, false, false, false, false, false] rfl rfl (any_of HT_.out (by kernel_rfl)) (fun _ _ _ h => h) (Or.inl ⟨by rfl, ?_⟩) ?_ ?_
  rotate_left
  · intro w'
    go_simp
    with_reducible rfl
  rotate_left
  · simp only [Act.put, List.setIfInBounds_toArray, List.set_cons_zero, List.set_cons_succ, i64_w, i32_w]
    rfl
  refine pure_ (i := 8) (N := some 22) (v := ?_) (a' := ?_) #[true, true, true, true, true, true, true, true, true, false, false, false, false, false, false, false, false, false, false, false] rfl rfl (any_of HT_.out (by kernel_rfl)) (fun _ _ _ h => h) (Or.inl ⟨by rfl, ?_⟩) ?_ ?_
  rotate_left
  · intro w'
    go_simp
    with_reducible rfl
  rotate_left
  · simp only [Act.put, List.setIfInBounds_toArray, List.set_cons_zero, List.set_cons_succ, i64_w, i32_w]
    rfl
  refine pure_ (i := 9) (N := some 23) (v := ?_) (a' := ?_) #[true, true, true, true, true, true, true, true, true, true, false, false, false, false, false, false, false, false, false, false] rfl rfl (any_of HT_.out (by kernel_rfl)) (fun _ _ _ h => h) (Or.inl ⟨by rfl, ?_⟩) ?_ ?_
  rotate_left
  · intro w'
    go_simp
    with_reducible rfl
  rotate_left
  · simp only [Act.put, List.setIfInBounds_toArray, List.set_cons_zero, List.set_cons_succ, i64_w, i32_w]
    rfl
  refine pure_ (i := 10) (N := some 24) (v := ?_) (a' := ?_) #[true, true, true, true, true, true, true, true, true, true, true, false, false, false, false, false, false, false, false, false] rfl rfl (any_of HT_.out (by kernel_rfl)) (fun _ _ _ h => h) (Or.inl ⟨by rfl, ?_⟩) ?_ ?_
  rotate_left
  · intro w'
    go_simp
    with_reducible rfl
  rotate_left
  · simp only [Act.put, List.setIfInBounds_toArray, List.set_cons_zero, List.set_cons_succ, i64_w, i32_w]
    rfl
  refine take_ (i := 11) (N := some 25) (v := ?_) (a' := ?_) #[true, true, true, true, true, true, true, true, true, true, true, true, false, false, false, false, false, false, false, false] rfl rfl (take_ofW HT_.out HW_.out (by kernel_rfl)) (fun _ _ _ h => h) (Or.inl ⟨by rfl, ?_⟩) hHeld ?_ ?_
  rotate_left
  · intro w' hS
    replace e9 := (hS.cell (World.block_lt_of_cell? _ _ e9)).trans e9
    replace e10 := (hS.cell (World.block_lt_of_cell? _ _ e10)).trans e10
    go_simp
    with_reducible rfl
  rotate_left
  · simp only [Act.put, List.setIfInBounds_toArray, List.set_cons_zero, List.set_cons_succ, i64_w, i32_w]
    rfl
  refine pure_ (i := 12) (N := some 26) (v := ?_) (a' := ?_) #[true, true, true, true, true, true, true, true, true, true, true, true, true, false, false, false, false, false, false, false] rfl rfl (any_of HT_.out (by kernel_rfl)) (fun _ _ _ h => h) (Or.inl ⟨by rfl, ?_⟩) ?_ ?_
  rotate_left
  · intro w'
    go_simp
    with_reducible rfl
  rotate_left
  · simp only [Act.put, List.setIfInBounds_toArray, List.set_cons_zero, List.set_cons_succ, i64_w, i32_w]
    rfl
  refine pure_ (i := 13) (N := some 27) (v := ?_) (a' := ?_) #[true, true, true, true, true, true, true, true, true, true, true, true, true, true, false, false, false, false, false, false] rfl rfl (any_of HT_.out (by kernel_rfl)) (fun _ _ _ h => h) (Or.inl ⟨by rfl, ?_⟩) ?_ ?_
  rotate_left
  · intro w'
    go_simp
    with_reducible rfl
  rotate_left
  · simp only [Act.put, List.setIfInBounds_toArray, List.set_cons_zero, List.set_cons_succ, i64_w, i32_w]
    rfl
  refine pure_ (i := 14) (N := some 28) (v := ?_) (a' := ?_) #[true, true, true, true, true, true, true, true, true, true, true, true, true, true, true, false, false, false, false, false] rfl rfl (any_of HT_.out (by kernel_rfl)) (fun _ _ _ h => h) (Or.inl ⟨by rfl, ?_⟩) ?_ ?_
  rotate_left
  · intro w'
    go_simp
    with_reducible rfl
  rotate_left
  · simp only [Act.put, List.setIfInBounds_toArray, List.set_cons_zero, List.set_cons_succ, i64_w, i32_w]
    rfl
  refine pure_ (i := 15) (N := some 29) (v := ?_) (a' := ?_) #[true, true, true, true, true, true, true, true, true, true, true, true, true, true, true, true, false, false, false, false] rfl rfl (any_of HT_.out (by kernel_rfl)) (fun _ _ _ h => h) (Or.inl ⟨by rfl, ?_⟩) ?_ ?_
  rotate_left
  · intro w'
    go_simp
    with_reducible rfl
  rotate_left
  · simp only [Act.put, List.setIfInBounds_toArray, List.set_cons_zero, List.set_cons_succ, i64_w, i32_w]
    rfl
  refine last_ (i := 16) (N := none) #[true, true, true, true, true, true, true, true, true, true, true, true, true, true, true, true, true, false, false, false] rfl rfl (one_of HT_.out (by kernel_rfl)) (by decide) (fun K hK => ?_)
  rw [if_pos (by rfl)]
  go_simp
  refine hK.out _ _ ?_
  clear hK K
  refine pure_ (i := 17) (N := some 30) (v := ?_) (a' := ?_) #[true, true, true, true, true, true, true, true, true, true, true, true, true, true, true, true, true, true, false, false] rfl rfl (any_of HT_.out (by kernel_rfl)) (fun _ _ _ h => h) (Or.inl ⟨by rfl, ?_⟩) ?_ ?_
  rotate_left
  · intro w'
    go_simp
    with_reducible rfl
  rotate_left
  · simp only [Act.put, List.setIfInBounds_toArray, List.set_cons_zero, List.set_cons_succ, i64_w, i32_w]
    rfl
  refine pure_ (i := 18) (N := some 31) (v := ?_) (a' := ?_) #[true, true, true, true, true, true, true, true, true, true, true, true, true, true, true, true, true, true, true, false] rfl rfl (any_of HT_.out (by kernel_rfl)) (fun _ _ _ h => h) (Or.inl ⟨by rfl, ?_⟩) ?_ ?_
  rotate_left
  · intro w'
    go_simp
    with_reducible rfl
  rotate_left
  · simp only [Act.put, List.setIfInBounds_toArray, List.set_cons_zero, List.set_cons_succ, i64_w, i32_w]
    rfl
  refine last_ (i := 19) (N := none) #[true, true, true, true, true, true, true, true, true, true, true, true, true, true, true, true, true, true, true, true] rfl rfl (one_of HT_.out (by kernel_rfl)) (by decide) (fun K hK => ?_)
  rw [if_pos (by rfl)]
  go_simp
  refine hK.out _ _ ?_
  clear hK K
  refine done_ (done_of HT_.out (by kernel_rfl)) ?_
  go_wp2_with fail
  go_returns
  refine ⟨by rfl, ?_, ?_, ?_⟩
  · rw [EO.out]
    with_reducible exact own_shift HO2.out j hj _ _
  · exact (HB2.out.setCell hbr _).setCell hbr _
  · intro i hi hir
    rw [Below.heap_setCell _ _ _ _ hir, Below.heap_setCell _ _ _ _ hir]
    exact HB3.out.block i hi
end Go.Proofs.Ytdadnapfecmmdaa.P
namespace Go.Proofs.Ytdadnapfecmmdaa.P
open Go.RowKit Go.Proofs.YtdadnapfecmmdaaW.PrintWords Go.Proofs.YtdadnapfecmmdaaW.PrintLast Go.Proofs.YtdadnapfecmmdaaW.PrintMore
attribute [local go_sem] max2_int min2_int max_two min_two max_three min_three max_four min_four   -- for this text's walks alone
set_option linter.unusedVariables false
set_option linter.unusedSimpArgs false
def attribute_within.l0 : Nat → ByteArray → Int → Int → Int → Int → Option (Bool)
  | 0, _, _, _, _, _ => none
  | k + 1, x0, x1, x2, x9, x10 => if x10 < x9 then (if 0 ≤ x10 then (if x10 < (x0.size : Int) then (if (bt x0 x10) < x1 then (some false) else (if (bt x0 x10) > x2 then (some false) else (attribute_within.l0 k x0 x1 x2 x9 (wrap64 (x10 + 1))))) else (none)) else (none)) else (some true)
def attribute_within.f (k : Nat) (a0 : ByteArray) (a1 : Int) (a2 : Int) : Option (Bool) := attribute_within.l0 k a0 a1 a2 (a0.size : Int) 0
theorem attribute_within.mono_l : ∀ k, (∀ y0 y1 y2 y3 y4, LeO (attribute_within.l0 k y0 y1 y2 y3 y4) (attribute_within.l0 (k + 1) y0 y1 y2 y3 y4))
  | 0 => fun _ _ _ _ _ r h => by simp [attribute_within.l0] at h
  | k + 1 => by
    have ih0 := attribute_within.mono_l k
    · intro y0 y1 y2 y3 y4
      unfold attribute_within.l0
      repeat' first
      | (with_reducible exact ih0 _ _ _ _ _)
      | (with_reducible exact LeO.refl _)
      | (with_reducible exact LeO.none _)
      | (with_reducible refine LeO.ite ?_ ?_)
      | (with_reducible refine LeO.bind ?_ (fun _ => ?_))
      | exact ih0 _ _ _ _ _
      | exact LeO.none _
      | refine LeO.ite ?_ ?_
      | refine LeO.bind ?_ (fun _ => ?_)
theorem attribute_within.mono : ∀ a0 a1 a2 k, LeO (attribute_within.f k a0 a1 a2) (attribute_within.f (k + 1) a0 a1 a2) := by
  intro a0 a1 a2 k
  have ih0 := attribute_within.mono_l k
  unfold attribute_within.f
  repeat' first
      | (with_reducible exact ih0 _ _ _ _ _)
      | (with_reducible exact LeO.refl _)
      | (with_reducible exact LeO.none _)
      | (with_reducible refine LeO.ite ?_ ?_)
      | (with_reducible refine LeO.bind ?_ (fun _ => ?_))
      | exact ih0 _ _ _ _ _
      | exact LeO.none _
      | refine LeO.ite ?_ ?_
      | refine LeO.bind ?_ (fun _ => ?_)
set_option maxHeartbeats 8000000 in
set_option maxRecDepth 100000 in
theorem attribute_within.calls (k : Nat) (a0 : ByteArray) (a1 : Int) (a2 : Int) (r : Bool) (w : World) (h : attribute_within.f k a0 a1 a2 = some r) :
    Calls Try.prog 79 #[.string a0, .int .u8 a1, .int .u8 a2] w fun e w' => e = .returned (.bool r) ∧ Drawn0 w w' := by
  have H : (attribute_within.l0 k a0 a1 a2 (a0.size : Int) 0) = some r := h
  clear h
  have H' := Aside0.mk H
  clear H
  go_enter Try.func79, Try.ntmps79
  go_wp2
  go_loopg [10] k (fun kq v10 w' => ∃ (x10_1 : Int), v10 = .int .i64 x10_1 ∧ Aside0 (attribute_within.l0 kq a0 a1 a2 (a0.size : Int) x10_1 = some r) ∧ Aside0 (kq ≤ k) ∧ Drawn0 w w')
  case atStart => exact ⟨(0), (by first | rfl | (simp; done) | (simp [*]; done)), H', ⟨Nat.le_refl _⟩, by repeat (first | exact Drawn0.refl _ | apply Drawn0.step)⟩
  case round =>
    clear H'
    try clear p2
    obtain ⟨x10_1, rfl, HA, HK1, ⟨m1, rfl⟩⟩ := hrel
    cases gk with
    | zero => exact absurd HA.out (by simp [attribute_within.l0])
    | succ k1 =>
      have H := HA.out
      clear HA
      simp only [attribute_within.l0] at H
      by_cases c4 : x10_1 < (a0.size : Int)
      · rw [if_pos c4] at H
        have c4b0 : decide (x10_1 < (a0.size : Int)) = true := decide_eq_true c4
        clear c4
        by_cases c5 : 0 ≤ x10_1
        · rw [if_pos c5] at H
          have c5b0 : decide (0 ≤ x10_1) = true := decide_eq_true c5
          clear c5
          by_cases c6 : x10_1 < (a0.size : Int)
          · rw [if_pos c6] at H
            have c6b0 : decide (x10_1 < (a0.size : Int)) = true := decide_eq_true c6
            clear c6
            by_cases c8 : (bt a0 x10_1) < a1
            · rw [if_pos c8] at H
              have c8b0 : decide ((bt a0 x10_1) < a1) = true := decide_eq_true c8
              clear c8
              obtain rfl := Option.some.inj H
              have p7 : 0 ≤ (x10_1 : Int) := of_decide_eq_true (by first | (with_reducible assumption) | assumption)
              have q7 : x10_1 < (a0.size : Int) := of_decide_eq_true (by first | (with_reducible assumption) | assumption)
              have hx7 := bt_at a0 x10_1
              replace p7 := eq_true p7
              replace q7 := eq_true q7
              go_wp2
              go_ret
              exact ⟨by first | rfl | (simp; done) | (simp [*]; done), by repeat (first | exact Drawn0.refl _ | apply Drawn0.step)⟩
            · rw [if_neg c8] at H
              have c8b0 : decide ((bt a0 x10_1) < a1) = false := decide_eq_false c8
              clear c8
              by_cases c10 : (bt a0 x10_1) > a2
              · rw [if_pos c10] at H
                have c10b0 : decide (a2 < (bt a0 x10_1)) = true := decide_eq_true c10
                clear c10
                obtain rfl := Option.some.inj H
                have p7 : 0 ≤ (x10_1 : Int) := of_decide_eq_true (by first | (with_reducible assumption) | assumption)
                have q7 : x10_1 < (a0.size : Int) := of_decide_eq_true (by first | (with_reducible assumption) | assumption)
                have hx7 := bt_at a0 x10_1
                replace p7 := eq_true p7
                replace q7 := eq_true q7
                have p9 : 0 ≤ (x10_1 : Int) := of_decide_eq_true (by first | (with_reducible assumption) | assumption)
                have q9 : x10_1 < (a0.size : Int) := of_decide_eq_true (by first | (with_reducible assumption) | assumption)
                have hx9 := bt_at a0 x10_1
                replace p9 := eq_true p9
                replace q9 := eq_true q9
                go_wp2
                go_ret
                exact ⟨by first | rfl | (simp; done) | (simp [*]; done), by repeat (first | exact Drawn0.refl _ | apply Drawn0.step)⟩
              · rw [if_neg c10] at H
                have c10b0 : decide (a2 < (bt a0 x10_1)) = false := decide_eq_false c10
                clear c10
                have H' := Aside0.mk H
                clear H
                have p7 : 0 ≤ (x10_1 : Int) := of_decide_eq_true (by first | (with_reducible assumption) | assumption)
                have q7 : x10_1 < (a0.size : Int) := of_decide_eq_true (by first | (with_reducible assumption) | assumption)
                have hx7 := bt_at a0 x10_1
                replace p7 := eq_true p7
                replace q7 := eq_true q7
                have p9 : 0 ≤ (x10_1 : Int) := of_decide_eq_true (by first | (with_reducible assumption) | assumption)
                have q9 : x10_1 < (a0.size : Int) := of_decide_eq_true (by first | (with_reducible assumption) | assumption)
                have hx9 := bt_at a0 x10_1
                replace p9 := eq_true p9
                replace q9 := eq_true q9
                go_wp2
                go_roundg k1
                case measure => have := HK1.out; omega
                case rel => exact ⟨(wrap64 (x10_1 + 1)), (by first | rfl | (simp; done) | (simp [*]; done)), H', ⟨by have := HK1.out; omega⟩, by repeat (first | exact Drawn0.refl _ | apply Drawn0.step)⟩
          · rw [if_neg c6] at H
            exact absurd H (by simp)
        · rw [if_neg c5] at H
          exact absurd H (by simp)
      · rw [if_neg c4] at H
        have c4b0 : decide (x10_1 < (a0.size : Int)) = false := decide_eq_false c4
        clear c4
        obtain rfl := Option.some.inj H
        go_wp2
        go_ret
        exact ⟨by first | rfl | (simp; done) | (simp [*]; done), by repeat (first | exact Drawn0.refl _ | apply Drawn0.step)⟩
def attribute_IsName.f (k : Nat) (a0 : ByteArray) : Option (Bool) := if a0.toList = ([] : List UInt8) then (some false) else (if (a0.size : Int) ≤ 64 then ((attribute_within.f k a0 33 126).bind fun t120 => (some t120)) else (some false))
theorem attribute_IsName.mono : ∀ a0 k, LeO (attribute_IsName.f k a0) (attribute_IsName.f (k + 1) a0) := by
  intro a0 k
  unfold attribute_IsName.f
  repeat' first
      | (with_reducible exact attribute_within.mono _ _ _ _)
      | (with_reducible exact LeO.refl _)
      | (with_reducible exact LeO.none _)
      | (with_reducible refine LeO.ite ?_ ?_)
      | (with_reducible refine LeO.bind ?_ (fun _ => ?_))
      | exact attribute_within.mono _ _ _ _
      | exact LeO.none _
      | refine LeO.ite ?_ ?_
      | refine LeO.bind ?_ (fun _ => ?_)
set_option maxHeartbeats 8000000 in
set_option maxRecDepth 100000 in
theorem attribute_IsName.calls (k : Nat) (a0 : ByteArray) (r : Bool) (w : World) (h : attribute_IsName.f k a0 = some r) :
    Calls Try.prog 51 #[.string a0] w fun e w' => e = .returned (.bool r) ∧ Drawn0 w w' := by
  have H : (if a0.toList = ([] : List UInt8) then (some false) else (if (a0.size : Int) ≤ 64 then ((attribute_within.f k a0 33 126).bind fun t120 => (some t120)) else (some false))) = some r := h
  clear h
  by_cases c2 : a0.toList = ([] : List UInt8)
  · rw [if_pos c2] at H
    have c2b0 : (a0.toList == ([] : List UInt8)) = true := beq_iff_eq.mpr c2
    have c2b1 : (a0.toList != ([] : List UInt8)) = false := bne_eq_false_iff_eq.mpr c2
    clear c2
    obtain rfl := Option.some.inj H
    go_enter Try.func51, Try.ntmps51
    go_wp2
    go_ret
    exact ⟨by first | rfl | (simp; done) | (simp [*]; done), by repeat (first | exact Drawn0.refl _ | apply Drawn0.step)⟩
  · rw [if_neg c2] at H
    have c2b0 : (a0.toList == ([] : List UInt8)) = false := beq_eq_false_iff_ne.mpr c2
    have c2b1 : (a0.toList != ([] : List UInt8)) = true := bne_iff_ne.mpr c2
    by_cases c3 : (a0.size : Int) ≤ 64
    · rw [if_pos c3] at H
      have c3b0 : decide ((a0.size : Int) ≤ 64) = true := decide_eq_true c3
      have c3b1 : decide (a0.size ≤ 64) = true := decide_eq_true (by omega)
      clear c3
      replace H := Option.bind_eq_some_iff.mp H
      obtain ⟨t120, A40, H⟩ := H
      replace H : (some t120) = some r := H
      have A4 := Aside0.mk A40
      clear A40
      obtain rfl := Option.some.inj H
      go_enter Try.func51, Try.ntmps51
      go_wp2_with (first | (go_at_call 79; (with_reducible refine (attribute_within.calls k a0 33 126 t120 _ A4.out).mono ?_); rintro e w' ⟨rfl, ⟨nd, rfl⟩⟩))
      go_ret
      exact ⟨by first | rfl | (simp; done) | (simp [*]; done), by repeat (first | exact Drawn0.refl _ | apply Drawn0.step)⟩
    · rw [if_neg c3] at H
      have c3b0 : decide ((a0.size : Int) ≤ 64) = false := decide_eq_false c3
      have c3b1 : decide (a0.size ≤ 64) = false := decide_eq_false (by omega)
      clear c3
      obtain rfl := Option.some.inj H
      go_enter Try.func51, Try.ntmps51
      go_wp2
      go_ret
      exact ⟨by first | rfl | (simp; done) | (simp [*]; done), by repeat (first | exact Drawn0.refl _ | apply Drawn0.step)⟩
def simulate_outside.f (a0 : Int) (a1 : Int) (a2 : Int) : Option (Bool) := if a0 < a1 then (some true) else (some (decide (a0 > a2)))
set_option maxHeartbeats 8000000 in
set_option maxRecDepth 100000 in
theorem simulate_outside.calls (a0 : Int) (a1 : Int) (a2 : Int) (r : Bool) (w : World) (h : simulate_outside.f a0 a1 a2 = some r) :
    Calls Try.prog 52 #[.int .i64 a0, .int .i64 a1, .int .i64 a2] w fun e w' => e = .returned (.bool r) ∧ Drawn0 w w' := by
  have H : (if a0 < a1 then (some true) else (some (decide (a0 > a2)))) = some r := h
  clear h
  by_cases c4 : a0 < a1
  · rw [if_pos c4] at H
    have c4b0 : decide (a0 < a1) = true := decide_eq_true c4
    clear c4
    obtain rfl := Option.some.inj H
    go_enter Try.func52, Try.ntmps52
    go_wp2
    go_ret
    exact ⟨by first | rfl | (simp; done) | (simp [*]; done), by repeat (first | exact Drawn0.refl _ | apply Drawn0.step)⟩
  · rw [if_neg c4] at H
    have c4b0 : decide (a0 < a1) = false := decide_eq_false c4
    clear c4
    obtain rfl := Option.some.inj H
    go_enter Try.func52, Try.ntmps52
    go_wp2
    go_ret
    exact ⟨by first | rfl | (simp; done) | (simp [*]; done), by repeat (first | exact Drawn0.refl _ | apply Drawn0.step)⟩
end Go.Proofs.Ytdadnapfecmmdaa.P
