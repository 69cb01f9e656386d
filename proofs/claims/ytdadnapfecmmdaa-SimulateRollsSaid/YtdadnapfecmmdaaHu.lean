/- Own walk over simulate.Config.trace. -/
import Derived.Test.YtdadnapfecmmdaaHr
import Derived.Laws.EntriesVeiled
namespace Go.Proofs.Ytdadnapfecmmdaa.P
set_option linter.unusedVariables false
set_option linter.unusedSimpArgs false
open Go.RowKit Go.Proofs.YtdadnapfecmmdaaW.PrintWords Go.Proofs.YtdadnapfecmmdaaW.PrintLast Go.Proofs.YtdadnapfecmmdaaW.PrintMore
open Go.Proofs.Ytdadnapfecmmdaa.Hm
/-- The services by their names (where a service's calls lie is no matter). -/
def smC (l : List S64) : List (ByteArray × SvV) := l.foldl (fun m x => mput m x.f0 ⟨x, none, 0⟩) []
theorem smC_snoc (l : List S64) (x : S64) : smC (l ++ [x]) = mput (smC l) x.f0 ⟨x, none, 0⟩ := by simp [smC]
def sameX (a b : List (ByteArray × SvV)) : Prop := ∀ k, (mget a k).map (·.x) = (mget b k).map (·.x)
theorem sameX.put {a b : List (ByteArray × SvV)} (h : sameX a b) (k : ByteArray) (u v : SvV) (e : u.x = v.x) : sameX (mput a k u) (mput b k v) := by
  intro j
  by_cases hj : j = k
  · subst hj
    simp [mget_put_same, e]
  · rw [mget_put_other _ _ _ _ hj, mget_put_other _ _ _ _ hj]
    exact h j
theorem serveV_same (c : Cfg) (slot t : Int) (a b : List (ByteArray × SvV)) (hab : sameX a b) : ∀ n, serveV c slot t a n = serveV c slot t b n
  | 0 => by
    funext name parent x l
    simp [serveV]
  | n + 1 => by
    funext name parent x l
    unfold serveV
    rw [serveV_same c slot t a b hab n]
    have h := hab name
    cases ha : mget a name with
    | none =>
      rw [ha] at h
      cases hb : mget b name with
      | none => rfl
      | some v => rw [hb] at h; cases h
    | some u =>
      rw [ha] at h
      cases hb : mget b name with
      | none => rw [hb] at h; cases h
      | some v =>
        rw [hb] at h
        obtain ⟨ux, uA, uc⟩ := u
        obtain ⟨vx, vA, vc⟩ := v
        obtain rfl : ux = vx := by simpa using h
        rfl
def traceV (n : Nat) (c : Cfg) (slot k : Int) : Option (List Sp) :=
  match c.sv with
  | [] => none
  | x :: _ => if 0 ≤ slot ∧ slot ≤ 1048576 ∧ 0 ≤ k ∧ k ≤ 1048576 ∧ 0 ≤ c.delay ∧ c.delay ≤ 1048576 then (serveV c slot (slot * 1048576 + 1 + k) (smC c.sv) n x.f0 0 (1000 * slot + 7 * k) []).map (·.2.2) else none
def traceT.T12 : Bool × List (List Nat × List Nat) := (true, [([], []), ([], []), ([1], [1]), ([2], [2]), ([3], [3]), ([4], [4]), ([], []), ([6], [6]), ([], []), ([8], [8]), ([7, 9], [7, 9]), ([0, 5, 10], [0, 5, 10])])
def traceT.B12 : List Nat := [0, 0, 2, 6, 14, 30, 0, 64, 0, 256, 960, 2047]
theorem traceT.tab12 : rtab .any (opsOf Try.f68 12) = traceT.T12 := by kernel_rfl
theorem traceT.bits12 : waitsOk traceT.T12.2 traceT.B12 = true := by kernel_rfl
theorem two_blocks (w : World) (o0 o1 : Obj) : ((w.alloc o0).alloc o1).heap[w.heap.size]? = some o0 ∧ ((w.alloc o0).alloc o1).heap[w.heap.size + 1]? = some o1 ∧ ((w.alloc o0).alloc o1).heap.size = w.heap.size + 1 + 1 := by
  have z : ∀ (u : World) (o : Obj), (u.alloc o).heap.size = u.heap.size + 1 := fun u o => by simp
  have n1 := blk_new (w.alloc o0) o1
  simp only [z] at n1
  exact ⟨blk_alloc (blk_new w o0) _, n1, by simp only [z]⟩
structure TrB (wr : World) (bc bl bt g bm bs : Nat) (c : Cfg) (p : CfgAt) (slot t : Int) : Prop where
  c : wr.heap[bc]? = some (.cells (c.cells p) 31 (0, 0))
  l : wr.heap[bl]? = some (.cells #[.int .i64 slot] 3 (0, 0))
  t : wr.heap[bt]? = some (.cells #[.int .i64 t] 3 (0, 0))
  g : wr.heap[g]? = some (.cells #[.slice none 0 0] 49 (0, 0))
  s : wr.heap[bs]? = some (.cells #[.map (some bm)] 156 (0, 0))
theorem TrB.below {wr w2 : World} {bc bl bt g bm bs : Nat} {c : Cfg} {p : CfgAt} {slot t : Int} (h : TrB wr bc bl bt g bm bs c p slot t) (hb : Below wr.heap.size wr w2) : TrB w2 bc bl bt g bm bs c p slot t :=
  ⟨blk_below h.c hb, blk_below h.l hb, blk_below h.t hb, blk_below h.g hb, blk_below h.s hb⟩
theorem TrB.grown {wr w2 : World} {bc bl bt g bm bs : Nat} {c : Cfg} {p : CfgAt} {slot t : Int} (h : TrB wr bc bl bt g bm bs c p slot t) (hb : wr.grownBy w2 (some bm)) (n1 : bc ≠ bm) (n2 : bl ≠ bm) (n3 : bt ≠ bm) (n4 : g ≠ bm) (n5 : bs ≠ bm) : TrB w2 bc bl bt g bm bs c p slot t :=
  ⟨blk_grown h.c hb (by simpa using n1), blk_grown h.l hb (by simpa using n2), blk_grown h.t hb (by simpa using n3), blk_grown h.g hb (by simpa using n4), blk_grown h.s hb (by simpa using n5)⟩
theorem six_blocks (w : World) (o0 o1 o2 o3 o4 o5 : Obj) : ((((((w.alloc o0).alloc o1).alloc o2).alloc o3).alloc o4).alloc o5).heap[w.heap.size]? = some o0 ∧ ((((((w.alloc o0).alloc o1).alloc o2).alloc o3).alloc o4).alloc o5).heap[w.heap.size + 1]? = some o1 ∧
    ((((((w.alloc o0).alloc o1).alloc o2).alloc o3).alloc o4).alloc o5).heap[w.heap.size + 1 + 1]? = some o2 ∧ ((((((w.alloc o0).alloc o1).alloc o2).alloc o3).alloc o4).alloc o5).heap[w.heap.size + 1 + 1 + 1]? = some o3 ∧
    ((((((w.alloc o0).alloc o1).alloc o2).alloc o3).alloc o4).alloc o5).heap[w.heap.size + 1 + 1 + 1 + 1]? = some o4 ∧ ((((((w.alloc o0).alloc o1).alloc o2).alloc o3).alloc o4).alloc o5).heap[w.heap.size + 1 + 1 + 1 + 1 + 1]? = some o5 ∧
    ((((((w.alloc o0).alloc o1).alloc o2).alloc o3).alloc o4).alloc o5).heap.size = w.heap.size + 1 + 1 + 1 + 1 + 1 + 1 := by
  have z : ∀ (u : World) (o : Obj), (u.alloc o).heap.size = u.heap.size + 1 := fun u o => by simp
  have n1 := blk_new (w.alloc o0) o1
  have n2 := blk_new ((w.alloc o0).alloc o1) o2
  have n3 := blk_new (((w.alloc o0).alloc o1).alloc o2) o3
  have n4 := blk_new ((((w.alloc o0).alloc o1).alloc o2).alloc o3) o4
  have n5 := blk_new (((((w.alloc o0).alloc o1).alloc o2).alloc o3).alloc o4) o5
  simp only [z] at n1 n2 n3 n4 n5
  exact ⟨blk_alloc (blk_alloc (blk_alloc (blk_alloc (blk_alloc (blk_new w o0) _) _) _) _) _, blk_alloc (blk_alloc (blk_alloc (blk_alloc n1 _) _) _) _, blk_alloc (blk_alloc (blk_alloc n2 _) _) _, blk_alloc (blk_alloc n3 _) _, blk_alloc n4 _, n5, by simp only [z]⟩
set_option maxHeartbeats 8000000 in
set_option maxRecDepth 100000 in
theorem trace_calls (n : Nat) (c : Cfg) (p : CfgAt) (slot k : Int) (w : World) (r : List Sp) (hR : CfgR w p c) (h : traceV n c slot k = some r) :
    Calls Try.prog 68 #[c.val p, .int .i64 slot, .int .i64 k] w fun e w' => ∃ v, e = .returned v ∧ w'.ownsRow w.heap.size 56 14 v r.length (spc r) ∧ Below w.heap.size w w' := by
  unfold traceV at h
  obtain ⟨x0, sv', hsv⟩ : ∃ x0 sv', c.sv = x0 :: sv' := by
    cases hs : c.sv with
    | nil => rw [hs] at h; cases h
    | cons a b => exact ⟨a, b, rfl⟩
  rw [hsv] at h
  dsimp only at h
  by_cases hg : 0 ≤ slot ∧ slot ≤ 1048576 ∧ 0 ≤ k ∧ k ≤ 1048576 ∧ 0 ≤ c.delay ∧ c.delay ≤ 1048576
  case neg => rw [if_neg hg] at h; cases h
  rw [if_pos hg] at h
  obtain ⟨hs0, hs1, hk0, hk1, hd0, hd1⟩ := hg
  rw [← hsv] at h
  have hx0 : c.sv[0]? = some x0 := by rw [hsv]; rfl
  have hlen0 : 0 < c.sv.length := by rw [hsv]; simp
  clear hsv sv'
  have HA := Aside0.mk h
  have HX0 := Aside0.mk hx0
  have hbig : c.sv.length ≤ 9223372036854775807 := hR.r1.2.1
  have HR := Aside0.mk hR
  clear h hx0 hR
  obtain ⟨A1, c1, A2, c2, A3, c3, A4, c4⟩ := p
  have hmm := @run_makeMap Try.prog
  have s1 : IntKind.i64.wrap (1000 * slot) = 1000 * slot := IntWalk.i64_in _ (by omega)
  have s2 : IntKind.i64.wrap (7 * k) = 7 * k := IntWalk.i64_in _ (by omega)
  have s3 : IntKind.i64.wrap (1000 * slot + 7 * k) = 1000 * slot + 7 * k := IntWalk.i64_in _ (by omega)
  have s4 : IntKind.i64.wrap (slot * 1048576) = slot * 1048576 := IntWalk.i64_in _ (by omega)
  have s5 : IntKind.i64.wrap (slot * 1048576 + 1) = slot * 1048576 + 1 := IntWalk.i64_in _ (by omega)
  have s6 : IntKind.i64.wrap (slot * 1048576 + 1 + k) = slot * 1048576 + 1 + k := IntWalk.i64_in _ (by omega)
  go_enter Try.func68, Try.ntmps68
  go_wp2_with fail
  obtain ⟨k0, k1, k2, k3, k4, k5, k6⟩ := six_blocks w (.cells (c.cells ⟨A1, c1, A2, c2, A3, c3, A4, c4⟩) 31) (.cells #[.int .i64 slot] 3) (.cells #[.int .i64 (slot * 1048576 + 1 + k)] 3) (.cells #[.slice none 0 0] 49) (.map #[] 0) (.cells #[.map (some (w.heap.size + 1 + 1 + 1 + 1))] 156)
  have kb : Below w.heap.size w ((((((w.alloc (.cells (c.cells ⟨A1, c1, A2, c2, A3, c3, A4, c4⟩) 31)).alloc (.cells #[.int .i64 slot] 3)).alloc (.cells #[.int .i64 (slot * 1048576 + 1 + k)] 3)).alloc (.cells #[.slice none 0 0] 49)).alloc (.map #[] 0)).alloc (.cells #[.map (some (w.heap.size + 1 + 1 + 1 + 1))] 156)) :=
    below_alloc (below_alloc (below_alloc (below_alloc (below_alloc (below_alloc (Below.refl _ _) _) _) _) _) _) _
  unfold Cfg.cells at k0 k1 k2 k3 k4 k5 k6 kb
  dsimp only at k0 k1 k2 k3 k4 k5 k6 kb
  obtain ⟨bs, hbs⟩ : ∃ b, b = w.heap.size + 1 + 1 + 1 + 1 + 1 := ⟨_, rfl⟩
  rw [← hbs] at k5 k6 ⊢
  obtain ⟨bm, hbm⟩ : ∃ b, b = w.heap.size + 1 + 1 + 1 + 1 := ⟨_, rfl⟩
  rw [← hbm] at k0 k1 k2 k3 k4 k5 k6 kb hbs ⊢
  obtain ⟨g, hg⟩ : ∃ b, b = w.heap.size + 1 + 1 + 1 := ⟨_, rfl⟩
  rw [← hg] at k3 hbm ⊢
  obtain ⟨bt, hbt⟩ : ∃ b, b = w.heap.size + 1 + 1 := ⟨_, rfl⟩
  rw [← hbt] at k2 hg ⊢
  obtain ⟨bl, hbl⟩ : ∃ b, b = w.heap.size + 1 := ⟨_, rfl⟩
  rw [← hbl] at k1 hbt ⊢
  generalize ((((((w.alloc _).alloc _).alloc _).alloc _).alloc _).alloc _) = W0 at *
  have HT := Aside0.mk (TrB.mk (p := ⟨A1, c1, A2, c2, A3, c3, A4, c4⟩) k0 k1 k2 k3 k5 : TrB W0 w.heap.size bl bt g bm bs c ⟨A1, c1, A2, c2, A3, c3, A4, c4⟩ slot (slot * 1048576 + 1 + k))
  have HM := Aside0.mk (⟨#[], 0, k4, rfl⟩ : MapIs W0 bm Value.string svVal ([] : List (ByteArray × SvV)))
  have HB := Aside0.mk kb
  have HN := Aside0.mk (And.intro hbs (And.intro hbm (And.intro hg (And.intro hbt (And.intro hbl k6)))))
  clear k0 k1 k2 k3 k4 k5 kb hbs hbm hg hbt hbl k6
  go_loopg [23] c.sv.length (fun gg s23 wr => ∃ (i : Nat) (sm : List (ByteArray × SvV)), i ≤ c.sv.length ∧ c.sv.length - i ≤ gg ∧ s23 = .int .i64 i ∧ Aside0 (sameX sm (smC (c.sv.take i))) ∧ Aside0 (∀ nm sv, mget sm nm = some sv → Kd.C Kd.string w sv.A sv.x.f5.length sv.x.f5) ∧ Aside0 (MapIs wr bm Value.string svVal sm) ∧ Aside0 (TrB wr w.heap.size bl bt g bm bs c ⟨A1, c1, A2, c2, A3, c3, A4, c4⟩ slot (slot * 1048576 + 1 + k)) ∧ Aside0 (Below w.heap.size w wr) ∧ Aside0 (bs < wr.heap.size))
  case atStart => exact ⟨0, [], by omega, by omega, by rfl, ⟨fun _ => rfl⟩, ⟨fun _ _ h => by cases h⟩, HM, HT, HB, ⟨by have := HN.out.2.2.2.2.2; omega⟩⟩
  case round =>
    clear HM HT HB
    obtain ⟨i, sm, hi, hgi, rfl, HS, HK, HM, HT, HB, HZ⟩ := hrel
    by_cases hlt : i < c.sv.length
    · have g0 : decide ((i : Int) < (c.sv.length : Int)) = true := by simpa using hlt
      obtain ⟨ad, A5, c5, e, h0, h1, h2, h3, h4, h5, l5, k5⟩ := at_T64 HR.out.r1 (i : Int) (by omega) (by omega)
      cases e
      rw [rd_T64_get c.sv i hlt] at h0 h1 h2 h3 h4 h5 l5 k5
      simp only [Int.toNat_natCast] at h0 h1 h2 h3 h4 h5
      replace h0 := (HB.out.cell (World.block_lt_of_cell? w _ h0)).trans h0
      replace h1 := (HB.out.cell (World.block_lt_of_cell? w _ h1)).trans h1
      replace h2 := (HB.out.cell (World.block_lt_of_cell? w _ h2)).trans h2
      replace h3 := (HB.out.cell (World.block_lt_of_cell? w _ h3)).trans h3
      replace h4 := (HB.out.cell (World.block_lt_of_cell? w _ h4)).trans h4
      replace h5 := (HB.out.cell (World.block_lt_of_cell? w _ h5)).trans h5
      have hT := HS.out
      have hs := smC_snoc (c.sv.take i) c.sv[i]
      rw [List.take_append_getElem hlt] at hs
      generalize c.sv[i] = x at h0 h1 h2 h3 h4 h5 l5 k5 hs
      have HS' := Aside0.mk (show sameX (mput sm x.f0 ⟨x, A5, c5⟩) (smC (c.sv.take (i + 1))) from hs ▸ hT.put x.f0 _ _ rfl)
      have HK' := Aside0.mk (show ∀ nm sv, mget (mput sm x.f0 ⟨x, A5, c5⟩) nm = some sv → Kd.C Kd.string w sv.A sv.x.f5.length sv.x.f5 from fun nm sv h => by
        by_cases hn : nm = x.f0
        · subst hn
          rw [mget_put_same] at h
          cases h
          exact k5
        · rw [mget_put_other _ _ _ _ hn] at h
          exact HK.out nm sv h)
      clear hT hs k5 l5
      have q0 : wr.cell? ⟨bs, 0, none⟩ = some (.map (some bm)) := (blk_cell HT.out.s 0).trans rfl
      have hbs1 : bs < wr.heap.size := HZ.out
      have n1 : bs ≠ wr.heap.size := by omega
      go_wp2_with (first | (at_mapUpdate; refine wp_store rfl _ _ _ rfl Try.underlying156 Try.underlying9 enc_string (HM.out.alloc _) rfl _ (⟨x, A5, c5⟩ : SvV) rfl rfl ?_; intro w3 hm3 hg3))
      have hn := HN.out
      have ha : Below wr.heap.size wr (wr.alloc (.cells #[.string x.f0, .int .i64 x.f1, .int .i64 x.f2, .int .i64 x.f3, .int .i64 x.f4, .slice A5 x.f5.length c5] 64)) := below_alloc (Below.refl _ _) _
      have hsz : bs < w3.heap.size := Nat.lt_of_lt_of_le hbs1 (Nat.le_trans ha.size hg3.size)
      go_roundg (c.sv.length - (i + 1))
      case measure => omega
      case rel => exact ⟨i + 1, mput sm x.f0 ⟨x, A5, c5⟩, by omega, Nat.le_refl _, by go_num, HS', HK', ⟨hm3⟩, ⟨(HT.out.below ha).grown hg3 (by omega) (by omega) (by omega) (by omega) (by omega)⟩, ⟨(below_step HB.out ha).grown hg3 (Nat.le_trans HB.out.size ha.size) (fun z hz => by simp at hz; omega)⟩, ⟨hsz⟩⟩
    · obtain rfl : i = c.sv.length := by omega
      have g0 : decide ((c.sv.length : Int) < (c.sv.length : Int)) = false := by simp
      rw [List.take_length] at HS
      clear hi hgi hlt
      go_wp2_with fail
      obtain ⟨e0, e1, e2⟩ := two_blocks wr (.cells #[.func (.func 85) #[] #[pv g, pv bt]] 157) (.cells #[.func (.func 86) #[] #[pv bs, pv w.heap.size, pv bl, pv wr.heap.size, pv bt, pv (wr.heap.size + 1), pv g]] 158)
      have eb : Below wr.heap.size wr ((wr.alloc (.cells #[.func (.func 85) #[] #[pv g, pv bt]] 157)).alloc (.cells #[.func (.func 86) #[] #[pv bs, pv w.heap.size, pv bl, pv wr.heap.size, pv bt, pv (wr.heap.size + 1), pv g]] 158)) := below_alloc (below_alloc (Below.refl _ _) _) _
      unfold pv at e0 e1 e2 eb
      obtain ⟨bv, hbv⟩ : ∃ b, b = wr.heap.size + 1 := ⟨_, rfl⟩
      rw [← hbv] at e0 e1 e2 eb ⊢
      generalize (wr.alloc _).alloc _ = W1 at e0 e1 e2 eb ⊢
      obtain ⟨hn1, hn2, hn3, hn4, hn5, hn6⟩ := HN.out
      have hzz := HZ.out
      have HT1 := HT.out.below eb
      have HE := Aside0.mk (⟨HT1.s, HM.out.below eb, HT1.c, HT1.l, e0, HT1.t, e1, by omega, by omega, by omega, by omega, by omega, by omega, by omega, by omega, Nat.le_trans HB.out.size eb.size⟩ : EnvR W1 bs bm w.heap.size bl wr.heap.size bt bv g w.heap.size c ⟨A1, c1, A2, c2, A3, c3, A4, c4⟩ slot (slot * 1048576 + 1 + k) sm)
      have HS1 : Aside0 (SpR W1 g w.heap.size []) := ⟨⟨.slice none 0 0, HT1.g, rfl, .inl ⟨rfl, rfl⟩⟩⟩
      have HB1 := Aside0.mk (below_step HB.out eb)
      have hA := HA.out
      rw [← serveV_same c slot _ sm (smC c.sv) HS.out n] at hA
      obtain ⟨⟨r1, r2, l'⟩, hq, hq2⟩ := Option.map_eq_some_iff.mp hA
      obtain rfl : l' = r := hq2
      have HC := Aside0.mk hq
      clear hA hq HA HT1 hn1 hn2 hn3 hn4 hn5 hn6 hzz
      obtain ⟨bb, hbb⟩ : ∃ b, b = wr.heap.size := ⟨_, rfl⟩
      rw [← hbb] at HE e0 e1 ⊢
      obtain ⟨ad, A5, c5, e, h0, _⟩ := at_T64 HR.out.r1 (0 : Int) (by omega) (by omega)
      have hx : rd_T64 c.sv 0 = x0 := by
        have h9 := HX0.out
        have h8 := rd_T64_get c.sv 0 hlen0
        rw [List.getElem?_eq_getElem hlen0] at h9
        exact h8.trans (Option.some.inj h9)
      rw [hx, show ad.add ((0 : Int).toNat * 6) = ad from by simp [Addr.add]] at h0
      replace h0 := (HB1.out.cell (World.block_lt_of_cell? w _ h0)).trans h0
      cases e
      have q0 : W1.cell? ⟨bv, 0, none⟩ = some (.func (.func 86) #[] #[pv bs, pv w.heap.size, pv bl, pv bb, pv bt, pv bv, pv g]) := (blk_cell HE.out.v 0).trans rfl
      have q1 : W1.cell? ⟨w.heap.size, 1, none⟩ = some (.slice (some ad) c.sv.length c1) := (blk_cell HE.out.c 1).trans rfl
      have q2 : W1.cell? ⟨bl, 0, none⟩ = some (.int .i64 slot) := (blk_cell HE.out.l 0).trans rfl
      have p1 : (0 : Int) < (c.sv.length : Int) := by omega
      clear hbb hbv e0 e1 e2 eb hx
      go_wp2_with fail
      refine start_ (n := 12) (S := fun w' => Below W1.heap.size W1 w') (ds := [11]) #[false, false, false, false, false, false, false, false, false, false, false, false] (by kernel_rfl) rfl rfl (Below.refl _ _).drew (fun hHeld => ?_)
      refine with_tabW traceT.tab12 traceT.bits12 (fun HT_ HW_ => ?_)
      generalize W1.drew = wd at hHeld ⊢
      refine take_ (i := 0) (N := some 34) (v := ?_) (a' := ?_) #[true, false, false, false, false, false, false, false, false, false, false, false] rfl rfl (take_ofW HT_.out HW_.out (by kernel_rfl)) (fun _ _ _ h => h) (Or.inl ⟨by rfl, ?_⟩) hHeld ?_ ?_
      rotate_left
      · intro w' hS
        replace q0 := (hS.cell (World.block_lt_of_cell? _ _ q0)).trans q0
        replace q1 := (hS.cell (World.block_lt_of_cell? _ _ q1)).trans q1
        replace q2 := (hS.cell (World.block_lt_of_cell? _ _ q2)).trans q2
        replace h0 := (hS.cell (World.block_lt_of_cell? _ _ h0)).trans h0
        go_simp
        with_reducible rfl
      rotate_left
      · simp only [Act.put, List.setIfInBounds_toArray, List.set_cons_zero, List.set_cons_succ, i64_w, i32_w]
        rfl
      refine pure_ (i := 1) (N := some 35) (v := ?_) (a' := ?_) #[true, true, false, false, false, false, false, false, false, false, false, false] rfl rfl (any_of HT_.out (by kernel_rfl)) (fun _ _ _ h => h) (Or.inl ⟨by rfl, ?_⟩) ?_ ?_
      rotate_left
      · intro w'
        go_simp
        with_reducible rfl
      rotate_left
      · simp only [Act.put, List.setIfInBounds_toArray, List.set_cons_zero, List.set_cons_succ, i64_w, i32_w]
        rfl
      refine take_ (i := 2) (N := some 36) (v := ?_) (a' := ?_) #[true, true, true, false, false, false, false, false, false, false, false, false] rfl rfl (take_ofW HT_.out HW_.out (by kernel_rfl)) (fun _ _ _ h => h) (Or.inl ⟨by rfl, ?_⟩) hHeld ?_ ?_
      rotate_left
      · intro w' hS
        replace q0 := (hS.cell (World.block_lt_of_cell? _ _ q0)).trans q0
        replace q1 := (hS.cell (World.block_lt_of_cell? _ _ q1)).trans q1
        replace q2 := (hS.cell (World.block_lt_of_cell? _ _ q2)).trans q2
        replace h0 := (hS.cell (World.block_lt_of_cell? _ _ h0)).trans h0
        go_simp
        with_reducible rfl
      rotate_left
      · simp only [Act.put, List.setIfInBounds_toArray, List.set_cons_zero, List.set_cons_succ, i64_w, i32_w]
        rfl
      refine pure_ (i := 3) (N := some 37) (v := ?_) (a' := ?_) #[true, true, true, true, false, false, false, false, false, false, false, false] rfl rfl (any_of HT_.out (by kernel_rfl)) (fun _ _ _ h => h) (Or.inl ⟨by rfl, ?_⟩) ?_ ?_
      rotate_left
      · intro w'
        go_simp
        with_reducible rfl
      rotate_left
      · simp only [Act.put, List.setIfInBounds_toArray, List.set_cons_zero, List.set_cons_succ, i64_w, i32_w]
        rfl
      refine pure_ (i := 4) (N := some 38) (v := ?_) (a' := ?_) #[true, true, true, true, true, false, false, false, false, false, false, false] rfl rfl (any_of HT_.out (by kernel_rfl)) (fun _ _ _ h => h) (Or.inl ⟨by rfl, ?_⟩) ?_ ?_
      rotate_left
      · intro w'
        go_simp
        with_reducible rfl
      rotate_left
      · simp only [Act.put, List.setIfInBounds_toArray, List.set_cons_zero, List.set_cons_succ, i64_w, i32_w]
        rfl
      refine take_ (i := 5) (N := some 39) (v := ?_) (a' := ?_) #[true, true, true, true, true, true, false, false, false, false, false, false] rfl rfl (take_ofW HT_.out HW_.out (by kernel_rfl)) (fun _ _ _ h => h) (Or.inl ⟨by rfl, ?_⟩) hHeld ?_ ?_
      rotate_left
      · intro w' hS
        replace q0 := (hS.cell (World.block_lt_of_cell? _ _ q0)).trans q0
        replace q1 := (hS.cell (World.block_lt_of_cell? _ _ q1)).trans q1
        replace q2 := (hS.cell (World.block_lt_of_cell? _ _ q2)).trans q2
        replace h0 := (hS.cell (World.block_lt_of_cell? _ _ h0)).trans h0
        go_simp
        with_reducible rfl
      rotate_left
      · simp only [Act.put, List.setIfInBounds_toArray, List.set_cons_zero, List.set_cons_succ, i64_w, i32_w]
        rfl
      refine take_ (i := 6) (N := some 40) (v := ?_) (a' := ?_) #[true, true, true, true, true, true, true, false, false, false, false, false] rfl rfl (take_ofW HT_.out HW_.out (by kernel_rfl)) (fun _ _ _ h => h) (Or.inl ⟨by rfl, ?_⟩) hHeld ?_ ?_
      rotate_left
      · intro w' hS
        replace q0 := (hS.cell (World.block_lt_of_cell? _ _ q0)).trans q0
        replace q1 := (hS.cell (World.block_lt_of_cell? _ _ q1)).trans q1
        replace q2 := (hS.cell (World.block_lt_of_cell? _ _ q2)).trans q2
        replace h0 := (hS.cell (World.block_lt_of_cell? _ _ h0)).trans h0
        go_simp
        with_reducible rfl
      rotate_left
      · simp only [Act.put, List.setIfInBounds_toArray, List.set_cons_zero, List.set_cons_succ, i64_w, i32_w]
        rfl
      refine pure_ (i := 7) (N := some 41) (v := ?_) (a' := ?_) #[true, true, true, true, true, true, true, true, false, false, false, false] rfl rfl (any_of HT_.out (by kernel_rfl)) (fun _ _ _ h => h) (Or.inl ⟨by rfl, ?_⟩) ?_ ?_
      rotate_left
      · intro w'
        go_simp
        with_reducible rfl
      rotate_left
      · simp only [Act.put, List.setIfInBounds_toArray, List.set_cons_zero, List.set_cons_succ, i64_w, i32_w]
        rfl
      refine pure_ (i := 8) (N := some 42) (v := ?_) (a' := ?_) #[true, true, true, true, true, true, true, true, true, false, false, false] rfl rfl (any_of HT_.out (by kernel_rfl)) (fun _ _ _ h => h) (Or.inl ⟨by rfl, ?_⟩) ?_ ?_
      rotate_left
      · intro w'
        go_simp
        with_reducible rfl
      rotate_left
      · simp only [Act.put, List.setIfInBounds_toArray, List.set_cons_zero, List.set_cons_succ, i64_w, i32_w]
        rfl
      refine pure_ (i := 9) (N := some 43) (v := ?_) (a' := ?_) #[true, true, true, true, true, true, true, true, true, true, false, false] rfl rfl (any_of HT_.out (by kernel_rfl)) (fun _ _ _ h => h) (Or.inl ⟨by rfl, ?_⟩) ?_ ?_
      rotate_left
      · intro w'
        go_simp
        with_reducible rfl
      rotate_left
      · simp only [Act.put, List.setIfInBounds_toArray, List.set_cons_zero, List.set_cons_succ, i64_w, i32_w]
        rfl
      refine pure_ (i := 10) (N := some 44) (v := ?_) (a' := ?_) #[true, true, true, true, true, true, true, true, true, true, true, false] rfl rfl (any_of HT_.out (by kernel_rfl)) (fun _ _ _ h => h) (Or.inl ⟨by rfl, ?_⟩) ?_ ?_
      rotate_left
      · intro w'
        go_simp
        with_reducible rfl
      rotate_left
      · simp only [Act.put, List.setIfInBounds_toArray, List.set_cons_zero, List.set_cons_succ, i64_w, i32_w]
        rfl
      refine last_ (i := 11) (N := some 45) #[true, true, true, true, true, true, true, true, true, true, true, true] rfl rfl (one_of HT_.out (by kernel_rfl)) (by decide) (fun K hK => ?_)
      refine call_ 86 #[.string x0.f0, .int .i64 0, .int .i64 (1000 * slot + 7 * k), pv bs, pv w.heap.size, pv bl, pv bb, pv bt, pv bv, pv g] (by rfl) rfl ?_ ?_
      · have he := enters_ (P := Try.prog) Try.func86 (by kernel_rfl) rfl #[.string x0.f0, .int .i64 0, .int .i64 (1000 * slot + 7 * k), pv bs, pv w.heap.size, pv bl, pv bb, pv bt, pv bv, pv g] wd
        unfold execOp
        simp [resolve, Deferred.ofValue, invoke, Act.eval, he]
      refine (serve_calls w bs bm w.heap.size bl bb bt bv g c ⟨some ad, c1, A2, c2, A3, c3, A4, c4⟩ slot (slot * 1048576 + 1 + k) sm HR.out hd0 hd1 HK.out n x0.f0 0 (1000 * slot + 7 * k) [] wd r1 r2 _ HC.out (HE.out.keep (KeepT.of_below hHeld g)) (HS1.out.below hHeld) (below_step HB1.out hHeld)).mono ?_
      rintro e w5 ⟨rfl, hs5, hk5, hb5⟩
      refine ⟨_, rfl, ?_⟩
      have HS7 := Aside0.mk hs5
      have CB7 := Aside0.mk hb5
      clear hs5 hk5 hb5
      refine hK.out _ _ ?_
      clear hK K
      refine norm_ (a' := ?_) ?_ ?_
      rotate_left
      · show Act.put _ (some 45) _ = _
        simp only [Act.put, List.setIfInBounds_toArray, List.set_cons_zero, List.set_cons_succ, i64_w, i32_w]
        rfl
      refine done_ (done_of HT_.out (by kernel_rfl)) ?_
      obtain ⟨v, hv, hown⟩ := HS7.out
      have q9 : w5.cell? ⟨g, 0, none⟩ = some v := (blk_cell hv 0).trans rfl
      have HO := Aside0.mk hown
      clear hv hown HS7 q0 q1 q2 h0
      go_wp2_with fail
      go_ret
      exact ⟨v, rfl, HO.out, CB7.out⟩
end Go.Proofs.Ytdadnapfecmmdaa.P
