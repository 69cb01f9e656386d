/- Own texts of a proof about layer 55's simulate (merged): Md, Me, Mf. -/
import Derived.Test.YtdadnapfecmmdaaYm13
import Derived.Test.YtdadnapfecmmdaaYm15
import Derived.Test.YtdadnapfecmmdaaYm2
namespace Go.Proofs.Ytdadnapfecmmdaa.P
set_option linter.unusedVariables false
set_option linter.unusedSimpArgs false
open Go.RowKit Go.Proofs.YtdadnapfecmmdaaW.PrintWords Go.Proofs.YtdadnapfecmmdaaW.PrintLast Go.Proofs.YtdadnapfecmmdaaW.PrintMore
open Go.Proofs.Ytdadnapfecmmdaa.Hm
def mkT.T7 : Bool × List (List Nat × List Nat) := (true, [([], []), ([0], [0]), ([], []), ([2], [2]), ([3], [3]), ([4], [4]), ([], []), ([6], [6]), ([7], [7]), ([8], [8]), ([], []), ([5, 9, 10], [5, 9, 10]), ([], []), ([12], [12]), ([13], [13]), ([11, 14], [11, 14]), ([1, 15], [1, 15]), ([], []), ([17], [17]), ([16, 11, 0, 1, 2, 3, 4, 5, 6, 7, 8, 9, 10, 11, 12, 13, 14, 15, 16], [16]), ([18, 19, 0, 1, 2, 3, 4, 5, 6, 7, 8, 9, 10, 11, 12, 13, 14, 15, 16, 17, 18, 19], [18])])
def mkT.B7 : List Nat := [0, 1, 0, 4, 12, 28, 0, 64, 192, 448, 0, 2044, 0, 4096, 12288, 32764, 65535, 0, 131072, 131071, 1048575]
theorem mkT.tab7 : rtab .any (opsOf Try.f44 7) = mkT.T7 := by kernel_rfl
theorem mkT.bits7 : waitsOk mkT.T7.2 mkT.B7 = true := by kernel_rfl
def mkT.T13 : Bool × List (List Nat × List Nat) := (true, [([], []), ([], []), ([1], [1]), ([0, 2], [0, 2]), ([], []), ([], []), ([5], [5]), ([4, 6], [4, 6]), ([3, 0, 1, 2, 3], [0, 3]), ([7, 8, 0, 1, 2, 3, 4, 5, 6, 7, 8], [4, 7])])
def mkT.B13 : List Nat := [0, 0, 2, 7, 0, 0, 32, 112, 15, 511]
theorem mkT.tab13 : rtab .any (opsOf Try.f44 13) = mkT.T13 := by kernel_rfl
theorem mkT.bits13 : waitsOk mkT.T13.2 mkT.B13 = true := by kernel_rfl
def mtail7 : { c : Code // tailFrom 7 (Try.f44.body.getD .skip) = some c } := ⟨_, by rfl⟩
set_option maxHeartbeats 8000000 in
set_option maxRecDepth 100000 in
theorem mserve_tail7 (w0 : World) (gm gs : Nat) (c : Cfg) (A1 : Option Addr) (c1 : Nat) (A2 : Option Addr) (c2 : Nat) (A3 : Option Addr) (c3 : Nat) (A4 : Option Addr) (c4 : Nat) (t : Int) (s : S64) (A5 : Option Addr) (c5 : Nat) (slot : Int) (sm : List (ByteArray × SvV)) (n : Nat) (ver : ByteArray) (parent x wk fk : Int) (l : List Sp) (r1 : Int) (r2 : Bool) (l' : List Sp) (W W0 : World) (v : Value) (z1 : Int) (z2 : Bool) (L2 : List Sp)
    (hl : l.length < 1000) (hx0 : 0 ≤ x) (hx1 : x ≤ 1152921504606846976) (hwk0 : 0 ≤ wk) (hwk1 : wk ≤ 1099511627776) (hz1 : 0 ≤ z1) (hz2 : z1 ≤ 1152921504606846976) (hz3 : l.length < L2.length) (hd : 0 ≤ c.delay) (hd1 : c.delay ≤ 1048576) (hn5 : s.f5.length ≤ 9223372036854775807) (hgm : w0.heap.size ≤ gm) (hgs : gs ≠ gm) (hw0 : 0 ≤ s.f2) (hw1 : s.f2 ≤ 1048576) (hj0 : 0 ≤ s.f3) (hj1 : s.f3 ≤ 1048576)
    (HA : Aside0 (z1 + wk - wk / 2 = r1 ∧ z2 = r2 ∧ setEnd L2 l.length (z1 + wk - wk / 2) z2 = l'))
    (HF : Aside0 (faultsV s.f0 ver slot c.fl (s.f2 + rollV c.seed t ((l.length : Int) + 1) 1 % (s.f3 + 1)) s.f4 = (wk, fk)))
    (HC : Aside0 (callsV c.seed c.delay t ((l.length : Int) + 1) s ver (serveV c slot t sm n) s.f5 (x + wk / 2) (decide (rollV c.seed t ((l.length : Int) + 1) 4 % 1000000 < fk)) (l ++ [⟨t, (l.length : Int) + 1, parent, 0, s.f1, 3, s.f0, ver, strServe, x, 0, false⟩]) = some (z1, z2, L2)))
    (HS5 : Aside0 (∀ W', Below w0.heap.size w0 W' → Kd.C Kd.string W' A5 s.f5.length s.f5)) (HCF : Aside0 (∀ W', Below w0.heap.size w0 W' → CfgR W' ⟨A1, c1, A2, c2, A3, c3, A4, c4⟩ c)) (HM : Aside0 (MkAt W0 gm w0.heap.size c ⟨A1, c1, A2, c2, A3, c3, A4, c4⟩ t l v)) (HK : Aside0 (KeepM W v W0 v gm)) (HB : Aside0 (Below w0.heap.size w0 W0)) (HG : Aside0 (W0.heap[gs]? = some (.cells (svCells s A5 c5) 64 (0, 0))))
    (IH : Aside0 (∀ (i : Nat) (nm : ByteArray) (hi : i < s.f5.length) (hnm : s.f5[i] = nm) (parent x : Int) (l : List Sp) (r1 : Int) (r2 : Bool) (l' : List Sp) (W : World) (v : Value), serveV c slot t sm n nm parent x l = some (r1, r2, l') → MkAt W gm w0.heap.size c ⟨A1, c1, A2, c2, A3, c3, A4, c4⟩ t l v → Below w0.heap.size w0 W → Calls Try.prog 44 #[.pointer (some ⟨gm, 0, none⟩), .int .i64 (svIdx c.sv nm), .int .i64 parent, .int .i64 x] W fun e w' => e = .returned (.tuple #[.int .i64 r1, .bool r2]) ∧ ∃ v', MkAt w' gm w0.heap.size c ⟨A1, c1, A2, c2, A3, c3, A4, c4⟩ t l' v' ∧ KeepM W v w' v' gm ∧ Below w0.heap.size w0 w')) {q1 q4 q5 q6 q7 q8 q9 q14 q15 q16 q17 q18 q19 q20 q21 q22 q23 q24 q25 q26 q27 q28 q29 q30 q31 q32 q33 q34 q35 q36 q37 q38 q39 q40 q41 q42 q43 q44 q45 q46 q47 q48 q49 q50 q51 q52 q53 q54 q55 q56 q57 q58 q59 q60 q61 q62 q63 q64 q65 q66 q67 q68 q69 q70 q71 q72 q73 q74 q75 q76 q77 q78 q79 q80 q81 q82 q83 q84 q85 q86 q87 q88 q89 q90 q91 q92 q93 q94 q95 q96 q97 q98 q99 q100 q101 q102 q103 q104 q105 q106 q107 q108 q109 q110 q111 q112 q113 q114 q115 q116 q117 q118 q119 q120 q121 q122 q123 q124 q125 q126 q127 q128 q129 q130 q131 q132 q133 q134 q135 q136 q137 q138 q139 q140 q141 q142 q143 q144 q145 q146 q147 q148 q149 q150 q151 q152 q153 q154 q155 q156 q157 q158 q159 q160 q161 q162 q163 q164 q165 q166 q167 q168 q169 q170 q171 q172 q173 q174 q175 q176 q177 q178 q179 q180 q181 q182 q183 q184 q185 q186 q187 q188 q189 q190 q191 q192 q193 q194 q195 q196 q197 q198 q199 q200 q201 q202 q203 q204 q205 q206 q207 q208 q209 q210 q211 q212 q213 q214 q215 q216 q217 q218 q219 q220 q221 q222 q223 q224 q225 q226 q227 q228 q229 q230 q231 q232 q233 q234 q235 q236 q237 q238 q239 q240 q241 q242 q243 q244 q245 q246 q247 q248 q249 q250 q251 q252 q253 q254 q255 q256 q257 q258 q259 q260 q261 q262 q263 q264 q265 q266 q267 q268 q269 q270 q271 q272 q273 q274 q275 q276 q277 q278 q279 q280 q281 q282 q283 q284 q285 q286 q287 q288 q289 q290 q291 q292 q293 q294 q295 q296 q297 q298 q299 q300 q301 q302 q303 q304 q305 q306 q307 q308 q309 q310 q311 q312 q313 q314 q315 q316 q317 q318 q319 q320 q321 : Value} :
    Code.wp Try.prog mtail7.1 (bodyPost Try.prog Try.f44 (fun e w' => e = .returned (.tuple #[.int .i64 r1, .bool r2]) ∧ ∃ v', MkAt w' gm w0.heap.size c ⟨A1, c1, A2, c2, A3, c3, A4, c4⟩ t l' v' ∧ KeepM W v w' v' gm ∧ Below w0.heap.size w0 w')) { tmps := List.toArray ((.pointer (some ⟨gm, 0, none⟩)) :: q1 :: (.int .i64 parent) :: (.int .i64 x) :: q4 :: q5 :: q6 :: q7 :: q8 :: q9 :: (.pointer (some ⟨gs, 0, none⟩)) :: (.int .i64 slot) :: (.int .i64 ((l.length : Int) + 1)) :: (.string ver) :: q14 :: q15 :: q16 :: q17 :: q18 :: q19 :: q20 :: q21 :: q22 :: q23 :: q24 :: q25 :: q26 :: q27 :: q28 :: q29 :: q30 :: q31 :: q32 :: q33 :: q34 :: q35 :: q36 :: q37 :: q38 :: q39 :: q40 :: q41 :: q42 :: q43 :: q44 :: q45 :: q46 :: q47 :: q48 :: q49 :: q50 :: q51 :: q52 :: q53 :: q54 :: q55 :: q56 :: q57 :: q58 :: q59 :: q60 :: q61 :: q62 :: q63 :: q64 :: q65 :: q66 :: q67 :: q68 :: q69 :: q70 :: q71 :: q72 :: q73 :: q74 :: q75 :: q76 :: q77 :: q78 :: q79 :: q80 :: q81 :: q82 :: q83 :: q84 :: q85 :: q86 :: q87 :: q88 :: q89 :: q90 :: q91 :: q92 :: q93 :: q94 :: q95 :: q96 :: q97 :: q98 :: q99 :: q100 :: q101 :: q102 :: q103 :: q104 :: q105 :: q106 :: q107 :: q108 :: q109 :: q110 :: q111 :: q112 :: q113 :: q114 :: q115 :: q116 :: q117 :: q118 :: q119 :: q120 :: q121 :: q122 :: q123 :: q124 :: q125 :: q126 :: q127 :: q128 :: q129 :: q130 :: q131 :: q132 :: q133 :: q134 :: q135 :: q136 :: q137 :: q138 :: q139 :: q140 :: q141 :: q142 :: q143 :: q144 :: q145 :: q146 :: q147 :: q148 :: q149 :: q150 :: q151 :: q152 :: q153 :: q154 :: q155 :: q156 :: q157 :: q158 :: q159 :: q160 :: q161 :: q162 :: q163 :: q164 :: q165 :: q166 :: q167 :: q168 :: q169 :: q170 :: q171 :: q172 :: q173 :: q174 :: q175 :: q176 :: q177 :: q178 :: q179 :: q180 :: q181 :: q182 :: q183 :: q184 :: q185 :: q186 :: q187 :: q188 :: q189 :: q190 :: q191 :: q192 :: q193 :: q194 :: q195 :: q196 :: q197 :: q198 :: q199 :: q200 :: q201 :: q202 :: q203 :: q204 :: q205 :: q206 :: q207 :: q208 :: q209 :: q210 :: q211 :: q212 :: q213 :: q214 :: q215 :: q216 :: q217 :: q218 :: q219 :: q220 :: q221 :: q222 :: q223 :: q224 :: q225 :: q226 :: q227 :: q228 :: q229 :: q230 :: q231 :: q232 :: q233 :: q234 :: q235 :: q236 :: q237 :: q238 :: q239 :: q240 :: q241 :: q242 :: q243 :: q244 :: q245 :: q246 :: q247 :: q248 :: q249 :: q250 :: q251 :: q252 :: q253 :: q254 :: q255 :: q256 :: q257 :: q258 :: q259 :: q260 :: q261 :: q262 :: q263 :: q264 :: q265 :: q266 :: q267 :: q268 :: q269 :: q270 :: q271 :: q272 :: q273 :: q274 :: q275 :: q276 :: q277 :: q278 :: q279 :: q280 :: q281 :: q282 :: q283 :: q284 :: q285 :: q286 :: q287 :: q288 :: q289 :: q290 :: q291 :: q292 :: q293 :: q294 :: q295 :: q296 :: q297 :: q298 :: q299 :: q300 :: q301 :: q302 :: q303 :: q304 :: q305 :: q306 :: q307 :: q308 :: q309 :: q310 :: q311 :: q312 :: q313 :: q314 :: q315 :: q316 :: q317 :: q318 :: q319 :: q320 :: q321 :: []), defers := [] } W0 := by
  dsimp only [mtail7]
  have hflen : c.fl.length ≤ 9223372036854775807 := (HCF.out _ HB.out).r4.2.1
  go_upto_region 7 with fail
  obtain ⟨WC, hWC⟩ : ∃ W : World, W = W0 := ⟨_, rfl⟩
  subst hWC
  go_cut [16, 17] (fun s16 s17 wz => s16 = .int .i64 (s.f2 + rollV c.seed t ((l.length : Int) + 1) 1 % (s.f3 + 1)) ∧ s17 = .int .i64 s.f4 ∧ Aside0 (Below WC.heap.size WC wz))
  case first =>
    have m0 : WC.cell? ⟨gm, 0, none⟩ = some (.int .i64 c.seed) := (blk_cell HM.out.blk 0).trans rfl
    have m1 : WC.cell? ⟨gm, 1, none⟩ = some (.slice A1 c.sv.length c1) := (blk_cell HM.out.blk 1).trans rfl
    have m2 : WC.cell? ⟨gm, 2, none⟩ = some (.slice A2 c.off.length c2) := (blk_cell HM.out.blk 2).trans rfl
    have m3 : WC.cell? ⟨gm, 3, none⟩ = some (.slice A3 c.ch.length c3) := (blk_cell HM.out.blk 3).trans rfl
    have m4 : WC.cell? ⟨gm, 4, none⟩ = some (.slice A4 c.fl.length c4) := (blk_cell HM.out.blk 4).trans rfl
    have m5 : WC.cell? ⟨gm, 5, none⟩ = some (.int .i64 c.sfrom) := (blk_cell HM.out.blk 5).trans rfl
    have m6 : WC.cell? ⟨gm, 6, none⟩ = some (.int .i64 c.sto) := (blk_cell HM.out.blk 6).trans rfl
    have m7 : WC.cell? ⟨gm, 7, none⟩ = some (.int .i64 c.per) := (blk_cell HM.out.blk 7).trans rfl
    have m8 : WC.cell? ⟨gm, 8, none⟩ = some (.int .i64 c.delay) := (blk_cell HM.out.blk 8).trans rfl
    have m9 : WC.cell? ⟨gm, 9, none⟩ = some (.int .i64 c.chunk) := (blk_cell HM.out.blk 9).trans rfl
    have m10 : WC.cell? ⟨gm, 10, none⟩ = some (.int .i64 c.loss) := (blk_cell HM.out.blk 10).trans rfl
    have m11 : WC.cell? ⟨gm, 11, none⟩ = some (.int .i64 c.rep) := (blk_cell HM.out.blk 11).trans rfl
    have m12 : WC.cell? ⟨gm, 12, none⟩ = some (.int .i64 t) := (blk_cell HM.out.blk 12).trans rfl
    have g2 : WC.cell? ⟨gs, 2, none⟩ = some (.int .i64 s.f2) := (blk_cell HG.out 2).trans rfl
    have g3 : WC.cell? ⟨gs, 3, none⟩ = some (.int .i64 s.f3) := (blk_cell HG.out 3).trans rfl
    have g4 : WC.cell? ⟨gs, 4, none⟩ = some (.int .i64 s.f4) := (blk_cell HG.out 4).trans rfl
    have s1 : IntKind.i64.wrap (s.f3 + 1) = s.f3 + 1 := IntWalk.i64_in _ (by omega)
    have s2 : ¬ (s.f3 + 1 = 0) := by omega
    have s3 : (rollV c.seed t ((l.length : Int) + 1) 1).tmod (s.f3 + 1) = rollV c.seed t ((l.length : Int) + 1) 1 % (s.f3 + 1) := roll_tmod _ _ _ _ _
    have s4 : IntKind.i64.wrap (s.f2 + rollV c.seed t ((l.length : Int) + 1) 1 % (s.f3 + 1)) = s.f2 + rollV c.seed t ((l.length : Int) + 1) 1 % (s.f3 + 1) := emod_wrap _ _ _ hj0 hj1 hw0 (by omega)
    refine start_ (n := 21) (S := fun w' => Below WC.heap.size WC w') (ds := []) (bz 21 0) (by kernel_rfl) rfl rfl (Below.refl _ _).drew (fun hHeld => ?_)
    refine with_tabW mkT.tab7 mkT.bits7 (fun HT_ HW_ => ?_)
    generalize WC.drew = wd at hHeld ⊢
    refine pu_ 0 (some 61) (bz 21 1) HT_ rfl rfl ?_
    refine tk_ 1 (some 62) (bz 21 3) HT_ HW_ rfl rfl hHeld ?_ (by intro w' hS; replace g2 := below_at hS g2; go_simp; with_reducible rfl)
    refine pu_ 2 (some 63) (bz 21 7) HT_ rfl rfl ?_
    refine pu_ 3 (some 64) (bz 21 15) HT_ rfl rfl ?_
    refine pu_ 4 (some 65) (bz 21 31) HT_ rfl rfl ?_
    refine tk_ 5 (some 66) (bz 21 63) HT_ HW_ rfl rfl hHeld ?_ (by intro w' hS; replace m0 := below_at hS m0; replace m1 := below_at hS m1; replace m2 := below_at hS m2; replace m3 := below_at hS m3; replace m4 := below_at hS m4; replace m5 := below_at hS m5; replace m6 := below_at hS m6; replace m7 := below_at hS m7; replace m8 := below_at hS m8; replace m9 := below_at hS m9; replace m10 := below_at hS m10; replace m11 := below_at hS m11; go_simp; with_reducible rfl)
    refine pu_ 6 (some 67) (bz 21 127) HT_ rfl rfl ?_
    refine pu_ 7 (some 68) (bz 21 255) HT_ rfl rfl ?_
    refine pu_ 8 (some 69) (bz 21 511) HT_ rfl rfl ?_
    refine tk_ 9 (some 70) (bz 21 1023) HT_ HW_ rfl rfl hHeld ?_ (by intro w' hS; replace m12 := below_at hS m12; go_simp; with_reducible rfl)
    refine pu_ 10 (some 71) (bz 21 2047) HT_ rfl rfl ?_
    refine pu_ 12 (some 73) (bz 21 6143) HT_ rfl rfl ?_
    refine tk_ 13 (some 74) (bz 21 14335) HT_ HW_ rfl rfl hHeld ?_ (by intro w' hS; replace g3 := below_at hS g3; go_simp; with_reducible rfl)
    refine pu_ 14 (some 75) (bz 21 30719) HT_ rfl rfl ?_
    refine pu_ 17 (some 78) (bz 21 161791) HT_ rfl rfl ?_
    refine tk_ 18 (some 79) (bz 21 423935) HT_ HW_ rfl rfl hHeld ?_ (by intro w' hS; replace g4 := below_at hS g4; go_simp; with_reducible rfl)
    refine one_ (i := 11) (N := some 72) (bz 21 425983) rfl rfl (one_of HT_.out (by kernel_rfl)) (by decide) (fun K hK => ?_)
    refine goes_ Try.func11 (by kernel_rfl) rfl #[c.val ⟨A1, c1, A2, c2, A3, c3, A4, c4⟩, .int .i64 t, .int .i64 ((l.length : Int) + 1), .int .i64 1] (by rfl) rfl rfl (by (try simp only [List.map_toArray, List.map_cons, List.map_nil]); first | done | rfl) ?_
    with_reducible refine (mroll_calls c ⟨A1, c1, A2, c2, A3, c3, A4, c4⟩ t ((l.length : Int) + 1) 1 _ (HCF.out _ (below_step HB.out hHeld))).mono ?_
    rintro e wx ⟨rfl, hb⟩
    refine ⟨_, rfl, ?_⟩
    replace hHeld := below_step hHeld hb
    clear hb
    refine hK.out _ _ hHeld (fun hHeld => ?_)
    clear hK K
    refine norm_ (a' := ?_) ?_ ?_
    rotate_left
    · show Act.put _ (some 72) _ = _
      simp only [Act.put, List.setIfInBounds_toArray, List.set_cons_zero, List.set_cons_succ, i64_w, i32_w]
      rfl
    refine pu_ 15 (some 76) (bz 21 458751) HT_ rfl rfl ?_
    refine pu_ 16 (some 77) (bz 21 524287) HT_ rfl rfl ?_
    refine pu_ 19 (some 16) (bz 21 1048575) HT_ rfl rfl ?_
    refine pu_ 20 (some 17) (bz 21 2097151) HT_ rfl rfl ?_
    refine done_ (done_of HT_.out (by kernel_rfl)) ?_
    go_wp2
    go_meet
    exact ⟨rfl, rfl, ⟨hHeld⟩⟩
  case rest =>
  obtain ⟨rfl, rfl, HB2_⟩ := hcut
  have HM2 := Aside0.mk (HM.out.below HB2_.out)
  have HK2 := Aside0.mk (HK.out.trans (KeepM.of_below HB2_.out))
  have HB2 := Aside0.mk (below_step HB.out HB2_.out)
  have HG2 := Aside0.mk (blk_below HG.out HB2_.out)
  clear HM HK HB HG HB2_
  obtain ⟨wk0, hwk0'⟩ : ∃ wk0 : Int, wk0 = s.f2 + rollV c.seed t ((l.length : Int) + 1) 1 % (s.f3 + 1) := ⟨_, rfl⟩
  rw [← hwk0'] at HF ⊢
  clear hwk0'
  obtain ⟨fk0, hfk0⟩ : ∃ fk0 : Int, fk0 = s.f4 := ⟨_, rfl⟩
  rw [← hfk0] at HF ⊢
  clear hfk0
  obtain ⟨WL, hWL⟩ : ∃ W : World, W = wc := ⟨_, rfl⟩
  subst hWL
  have HBL := Aside0.mk (Below.refl WL.heap.size WL)
  go_upto_block 0 with fail
  go_cut [16, 17] (fun s16 s17 wz => s16 = .int .i64 wk ∧ s17 = .int .i64 fk ∧ Aside0 (Below WL.heap.size WL wz))
  case first =>
    go_wp2_with fail
    go_loopg [16, 17, 18] c.fl.length (fun gg s16 s17 s18 wr => ∃ (i : Nat) (w' f' : Int), i ≤ c.fl.length ∧ c.fl.length - i ≤ gg ∧ s18 = .int .i64 (i : Int) ∧ s16 = .int .i64 w' ∧ s17 = .int .i64 f' ∧ Aside0 (faultsV s.f0 ver slot (c.fl.drop i) w' f' = (wk, fk)) ∧ Aside0 (Below WL.heap.size WL wr))
    case atStart => exact ⟨0, wk0, fk0, by omega, by omega, by rfl, by rfl, by rfl, ⟨by have := HF.out; simpa using this⟩, HBL⟩
    case round =>
    clear HF HBL
    obtain ⟨i, w', f', hi, hgi, rfl, rfl, rfl, HF, HBR⟩ := hrel
    have m4 : wr.cell? ⟨gm, 4, none⟩ = some (.slice A4 c.fl.length c4) := (HBR.out.cell (World.block_lt_of_cell? WL ⟨gm, 4, none⟩ ((blk_cell HM2.out.blk 4).trans rfl))).trans ((blk_cell HM2.out.blk 4).trans rfl)
    by_cases hlt : i < c.fl.length
    · have g0 : decide ((i : Int) < (c.fl.length : Int)) = true := by simpa using hlt
      have hF := HF.out
      clear HF
      rw [List.drop_eq_getElem_cons hlt] at hF
      obtain ⟨ad, e, p0, p1, p2, p3, p4, p5⟩ := at_T61n (HCF.out _ (below_step HB2.out HBR.out)).r4 i hlt
      dsimp only at e
      subst e
      generalize c.fl[i] = xf at hF p0 p1 p2 p3 p4 p5
      obtain ⟨xf0, xf1, ⟨xf2, xf3⟩, xf4, xf5⟩ := xf
      dsimp only at p0 p1 p2 p3 p4 p5
      have HF := Aside0.mk hF
      clear hF
      have n0 : gs < wr.heap.size := Nat.lt_of_lt_of_le (blk_lt HG2.out) HBR.out.size
      go_upto_region 12 with fail
      have hx0 := blk_new wr (.cells #[.string xf0, .string xf1, .int .i64 xf2, .int .i64 xf3, .int .i64 xf4, .int .i64 xf5] 61)
      have hbx : Below WL.heap.size WL (wr.alloc (.cells #[.string xf0, .string xf1, .int .i64 xf2, .int .i64 xf3, .int .i64 xf4, .int .i64 xf5] 61)) := below_alloc HBR.out _
      clear p0 p1 p2 p3 p4 p5 m4
      obtain ⟨gf, hgf⟩ : ∃ gf : Nat, gf = wr.heap.size := ⟨_, rfl⟩
      rw [← hgf] at hx0 ⊢
      generalize wr.alloc (.cells #[.string xf0, .string xf1, .int .i64 xf2, .int .i64 xf3, .int .i64 xf4, .int .i64 xf5] 61) = wx at hx0 hbx ⊢
      have HX := Aside0.mk hx0
      have HBX := Aside0.mk hbx
      clear hx0 hbx hgf n0
      have y0 : wx.cell? ⟨gf, 0, none⟩ = some (.string xf0) := (blk_cell HX.out 0).trans rfl
      have y1 : wx.cell? ⟨gf, 1, none⟩ = some (.string xf1) := (blk_cell HX.out 1).trans rfl
      have y2 : wx.cell? ⟨gf, 2, none⟩ = some (.int .i64 xf2) := (blk_cell HX.out 2).trans rfl
      have y3 : wx.cell? ⟨gf, 3, none⟩ = some (.int .i64 xf3) := (blk_cell HX.out 3).trans rfl
      have y4 : wx.cell? ⟨gf, 4, none⟩ = some (.int .i64 xf4) := (blk_cell HX.out 4).trans rfl
      have y5 : wx.cell? ⟨gf, 5, none⟩ = some (.int .i64 xf5) := (blk_cell HX.out 5).trans rfl
      have g1 : wx.cell? ⟨gs, 0, none⟩ = some (.string s.f0) := (blk_cell (blk_below HG2.out HBX.out) 0).trans rfl
      go_cut [127] (fun s127 wz => ∃ bb : Bool, s127 = .bool bb ∧ Aside0 (bb = true → (xf0.toList = s.f0.toList ∧ xf2 ≤ slot ∧ slot < xf3 ∧ (xf1.toList = [] ∨ xf1.toList = ver.toList))) ∧ Aside0 (bb = false → ¬ (xf0.toList = s.f0.toList ∧ xf2 ≤ slot ∧ slot < xf3 ∧ (xf1.toList = [] ∨ xf1.toList = ver.toList))) ∧ Aside0 (wz = wx))
      case first =>
        by_cases k1 : xf0.toList = s.f0.toList
        · have j1 : (xf0.toList == s.f0.toList) = true := by simp [k1]
          have i1 := eq_true k1
          by_cases k2 : xf2 ≤ slot
          · have j2 : decide (xf2 ≤ slot) = true := by simpa using k2
            have i2 := eq_true k2
            by_cases k3 : slot < xf3
            · have j3 : decide (slot < xf3) = true := by simpa using k3
              have i3 := eq_true k3
              by_cases k4 : xf1.toList = []
              · have j4 : xf1.toList.isEmpty = true := by rw [k4]; rfl
                have i4 := eq_true k4
                have hcc : Aside0 (xf0.toList = s.f0.toList ∧ xf2 ≤ slot ∧ slot < xf3 ∧ (xf1.toList = [] ∨ xf1.toList = ver.toList)) := ⟨⟨k1, k2, k3, .inl k4⟩⟩
                clear k1 k2 k3 k4
                go_wp2_with fail
                go_meet
                exact ⟨true, rfl, ⟨fun _ => hcc.out⟩, ⟨fun h => by cases h⟩, ⟨rfl⟩⟩
              · have j4 : xf1.toList.isEmpty = false := by simpa using k4
                have i4 := eq_false k4
                by_cases k5 : xf1.toList = ver.toList
                · have j5 : (xf1.toList == ver.toList) = true := by simp [k5]
                  have i5 := eq_true k5
                  have hcc : Aside0 (xf0.toList = s.f0.toList ∧ xf2 ≤ slot ∧ slot < xf3 ∧ (xf1.toList = [] ∨ xf1.toList = ver.toList)) := ⟨⟨k1, k2, k3, .inr k5⟩⟩
                  clear k1 k2 k3 k4 k5
                  go_wp2_with fail
                  go_meet
                  exact ⟨true, rfl, ⟨fun _ => hcc.out⟩, ⟨fun h => by cases h⟩, ⟨rfl⟩⟩
                · have j5 : (xf1.toList == ver.toList) = false := by simpa using k5
                  have i5 := eq_false k5
                  have hcc : Aside0 (¬ (xf0.toList = s.f0.toList ∧ xf2 ≤ slot ∧ slot < xf3 ∧ (xf1.toList = [] ∨ xf1.toList = ver.toList))) := ⟨fun h => by rcases h.2.2.2 with h | h; exact k4 h; exact k5 h⟩
                  clear k1 k2 k3 k4 k5
                  go_wp2_with fail
                  go_meet
                  exact ⟨false, rfl, ⟨fun h => by cases h⟩, ⟨fun _ => hcc.out⟩, ⟨rfl⟩⟩
            · have j3 : decide (slot < xf3) = false := by simpa using k3
              have i3 := eq_false k3
              have hcc : Aside0 (¬ (xf0.toList = s.f0.toList ∧ xf2 ≤ slot ∧ slot < xf3 ∧ (xf1.toList = [] ∨ xf1.toList = ver.toList))) := ⟨fun h => k3 h.2.2.1⟩
              clear k1 k2 k3
              go_wp2_with fail
              go_meet
              exact ⟨false, rfl, ⟨fun h => by cases h⟩, ⟨fun _ => hcc.out⟩, ⟨rfl⟩⟩
          · have j2 : decide (xf2 ≤ slot) = false := by simpa using k2
            have i2 := eq_false k2
            have hcc : Aside0 (¬ (xf0.toList = s.f0.toList ∧ xf2 ≤ slot ∧ slot < xf3 ∧ (xf1.toList = [] ∨ xf1.toList = ver.toList))) := ⟨fun h => k2 h.2.1⟩
            clear k1 k2
            go_wp2_with fail
            go_meet
            exact ⟨false, rfl, ⟨fun h => by cases h⟩, ⟨fun _ => hcc.out⟩, ⟨rfl⟩⟩
        · have j1 : (xf0.toList == s.f0.toList) = false := by simpa using k1
          have i1 := eq_false k1
          have hcc : Aside0 (¬ (xf0.toList = s.f0.toList ∧ xf2 ≤ slot ∧ slot < xf3 ∧ (xf1.toList = [] ∨ xf1.toList = ver.toList))) := ⟨fun h => k1 h.1⟩
          clear k1
          go_wp2_with fail
          go_meet
          exact ⟨false, rfl, ⟨fun h => by cases h⟩, ⟨fun _ => hcc.out⟩, ⟨rfl⟩⟩
      case rest =>
      obtain ⟨bb, rfl, hb1, hb2, hw⟩ := hcut
      have hw2 : wx = wc := hw.out.symm
      subst hw2
      clear hw g1 y0 y1 y2 y3
      cases bb with
      | false =>
        have HF2 := Aside0.mk (show faultsV s.f0 ver slot (c.fl.drop (i + 1)) w' f' = (wk, fk) by have h := HF.out; rwa [faultsV, if_neg (hb2.out rfl)] at h)
        clear HF hb1 hb2 HX y4 y5
        go_wp2_with fail
        go_roundg (c.fl.length - (i + 1))
        case measure => omega
        case rel => exact ⟨i + 1, w', f', by omega, Nat.le_refl _, by first | rfl | go_num, rfl, rfl, HF2, HBX⟩
      | true =>
        have HF2 := Aside0.mk (show faultsV s.f0 ver slot (c.fl.drop (i + 1)) (wrap64 (w' + xf4)) (wrap64 (f' + xf5)) = (wk, fk) by have h := HF.out; rwa [faultsV, if_pos (hb1.out rfl)] at h)
        clear HF hb1 hb2 HX
        go_upto_region 13 with fail
        refine start_ (n := 10) (S := fun w' => Below wx.heap.size wx w') (ds := []) (bz 10 0) (by kernel_rfl) rfl rfl (Below.refl _ _).drew (fun hHeld => ?_)
        refine with_tabW mkT.tab13 mkT.bits13 (fun HT_ HW_ => ?_)
        generalize wx.drew = wd at hHeld ⊢
        refine pu_ 0 (some 128) (bz 10 1) HT_ rfl rfl ?_
        refine pu_ 1 (some 129) (bz 10 3) HT_ rfl rfl ?_
        refine tk_ 2 (some 130) (bz 10 7) HT_ HW_ rfl rfl hHeld ?_ (by intro w' hS; replace y4 := below_at hS y4; go_simp; with_reducible rfl)
        refine pu_ 3 (some 131) (bz 10 15) HT_ rfl rfl ?_
        refine pu_ 4 (some 132) (bz 10 31) HT_ rfl rfl ?_
        refine pu_ 5 (some 133) (bz 10 63) HT_ rfl rfl ?_
        refine tk_ 6 (some 134) (bz 10 127) HT_ HW_ rfl rfl hHeld ?_ (by intro w' hS; replace y5 := below_at hS y5; go_simp; with_reducible rfl)
        refine pu_ 7 (some 135) (bz 10 255) HT_ rfl rfl ?_
        refine pu_ 8 (some 16) (bz 10 511) HT_ rfl rfl ?_
        refine pu_ 9 (some 17) (bz 10 1023) HT_ rfl rfl ?_
        refine done_ (done_of HT_.out (by kernel_rfl)) ?_
        have HBY := Aside0.mk (below_step HBX.out hHeld)
        clear hHeld HBX y4 y5
        go_wp2_with fail
        go_roundg (c.fl.length - (i + 1))
        case measure => omega
        case rel => exact ⟨i + 1, wrap64 (w' + xf4), wrap64 (f' + xf5), by omega, Nat.le_refl _, by first | rfl | go_num, rfl, rfl, HF2, HBY⟩
    · have g0 : decide ((i : Int) < (c.fl.length : Int)) = false := by simp; omega
      obtain rfl : i = c.fl.length := by omega
      have hF := HF.out
      rw [List.drop_length, faultsV] at hF
      injection hF with hF1 hF2
      subst hF1
      subst hF2
      clear HF
      go_wp2
      go_meet
      exact ⟨rfl, rfl, HBR⟩
  case rest =>
  obtain ⟨rfl, rfl, HBR⟩ := hcut
  have HM3 := Aside0.mk (HM2.out.below HBR.out)
  have HK3 := Aside0.mk (HK2.out.trans (KeepM.of_below HBR.out))
  have HB3 := Aside0.mk (below_step HB2.out HBR.out)
  have HG3 := Aside0.mk (blk_below HG2.out HBR.out)
  rename_i hK
  exact hK _ _ (mserve_tail w0 gm gs c A1 c1 A2 c2 A3 c3 A4 c4 t s A5 c5 slot sm n ver parent x wk fk l r1 r2 l' W _ v z1 z2 L2 hl hx0 hx1 hwk0 hwk1 hz1 hz2 hz3 hd hd1 hn5 hgm hgs HA HC HS5 HCF HM3 HK3 HB3 HG3 IH)
def mkT.T4 : Bool × List (List Nat × List Nat) := (true, [([], []), ([0], [0]), ([1], [1]), ([2], [2]), ([3], [3]), ([], []), ([5], [5]), ([], []), ([4, 6, 7], [4, 6, 7]), ([8], [8]), ([9], [9]), ([9], [9]), ([], []), ([12, 10, 8, 0, 1, 2, 3, 4, 5, 6, 7, 8, 9, 10, 12], [10, 12]), ([11, 13, 0, 1, 2, 3, 4, 5, 6, 7, 8, 9, 10, 11, 12, 13], [11])])
def mkT.B4 : List Nat := [0, 1, 3, 7, 15, 0, 32, 0, 255, 511, 1023, 1023, 0, 6143, 16383]
theorem mkT.tab4 : rtab .any (opsOf Try.f44 4) = mkT.T4 := by kernel_rfl
theorem mkT.bits4 : waitsOk mkT.T4.2 mkT.B4 = true := by kernel_rfl
def mtail4 : { c : Code // tailFrom 4 (Try.f44.body.getD .skip) = some c } := ⟨_, by rfl⟩
set_option maxHeartbeats 8000000 in
set_option maxRecDepth 100000 in
theorem mserve_tail4 (w0 : World) (gm gs : Nat) (c : Cfg) (A1 : Option Addr) (c1 : Nat) (A2 : Option Addr) (c2 : Nat) (A3 : Option Addr) (c3 : Nat) (A4 : Option Addr) (c4 : Nat) (t : Int) (s : S64) (A5 : Option Addr) (c5 : Nat) (slot : Int) (sm : List (ByteArray × SvV)) (n : Nat) (ver : ByteArray) (parent x wk fk : Int) (l : List Sp) (r1 : Int) (r2 : Bool) (l' : List Sp) (W W0 : World) (v : Value) (z1 : Int) (z2 : Bool) (L2 : List Sp)
    (a0 a1 a2 : Int) (a3 a4 : ByteArray) (a6 : Bool) (HAC : Aside0 (∀ W', Below w0.heap.size w0 W' → Calls Try.prog 39 #[.slice A3 c.ch.length c3, .string s.f0, .int .i64 slot] W' fun e w' => e = .returned (.tuple #[.agg #[.int .i64 a0, .int .i64 a1, .int .i64 a2, .string a3, .string a4, .string ver], .bool a6]) ∧ Below W'.heap.size W' w')) (HVER : Aside0 (a6 = false → ver = ⟨#[]⟩))
    (hl : l.length < 1000) (hx0 : 0 ≤ x) (hx1 : x ≤ 1152921504606846976) (hwk0 : 0 ≤ wk) (hwk1 : wk ≤ 1099511627776) (hz1 : 0 ≤ z1) (hz2 : z1 ≤ 1152921504606846976) (hz3 : l.length < L2.length) (hd : 0 ≤ c.delay) (hd1 : c.delay ≤ 1048576) (hn5 : s.f5.length ≤ 9223372036854775807) (hgm : w0.heap.size ≤ gm) (hgs : gs ≠ gm)
    (HA : Aside0 (z1 + wk - wk / 2 = r1 ∧ z2 = r2 ∧ setEnd L2 l.length (z1 + wk - wk / 2) z2 = l'))
    (hw0 : 0 ≤ s.f2) (hw1 : s.f2 ≤ 1048576) (hj0 : 0 ≤ s.f3) (hj1 : s.f3 ≤ 1048576) (HF : Aside0 (faultsV s.f0 ver slot c.fl (s.f2 + rollV c.seed t ((l.length : Int) + 1) 1 % (s.f3 + 1)) s.f4 = (wk, fk)))
    (HC : Aside0 (callsV c.seed c.delay t ((l.length : Int) + 1) s ver (serveV c slot t sm n) s.f5 (x + wk / 2) (decide (rollV c.seed t ((l.length : Int) + 1) 4 % 1000000 < fk)) (l ++ [⟨t, (l.length : Int) + 1, parent, 0, s.f1, 3, s.f0, ver, strServe, x, 0, false⟩]) = some (z1, z2, L2)))
    (HS5 : Aside0 (∀ W', Below w0.heap.size w0 W' → Kd.C Kd.string W' A5 s.f5.length s.f5)) (HCF : Aside0 (∀ W', Below w0.heap.size w0 W' → CfgR W' ⟨A1, c1, A2, c2, A3, c3, A4, c4⟩ c)) (HM : Aside0 (MkAt W0 gm w0.heap.size c ⟨A1, c1, A2, c2, A3, c3, A4, c4⟩ t l v)) (HK : Aside0 (KeepM W v W0 v gm)) (HB : Aside0 (Below w0.heap.size w0 W0)) (HG : Aside0 (W0.heap[gs]? = some (.cells (svCells s A5 c5) 64 (0, 0))))
    (IH : Aside0 (∀ (i : Nat) (nm : ByteArray) (hi : i < s.f5.length) (hnm : s.f5[i] = nm) (parent x : Int) (l : List Sp) (r1 : Int) (r2 : Bool) (l' : List Sp) (W : World) (v : Value), serveV c slot t sm n nm parent x l = some (r1, r2, l') → MkAt W gm w0.heap.size c ⟨A1, c1, A2, c2, A3, c3, A4, c4⟩ t l v → Below w0.heap.size w0 W → Calls Try.prog 44 #[.pointer (some ⟨gm, 0, none⟩), .int .i64 (svIdx c.sv nm), .int .i64 parent, .int .i64 x] W fun e w' => e = .returned (.tuple #[.int .i64 r1, .bool r2]) ∧ ∃ v', MkAt w' gm w0.heap.size c ⟨A1, c1, A2, c2, A3, c3, A4, c4⟩ t l' v' ∧ KeepM W v w' v' gm ∧ Below w0.heap.size w0 w')) {q1 q4 q5 q6 q7 q8 q9 q14 q15 q16 q17 q18 q19 q20 q21 q22 q23 q24 q25 q26 q27 q28 q29 q30 q31 q32 q33 q34 q35 q36 q37 q38 q39 q40 q41 q42 q43 q44 q45 q46 q47 q48 q49 q50 q51 q52 q53 q54 q55 q56 q57 q58 q59 q60 q61 q62 q63 q64 q65 q66 q67 q68 q69 q70 q71 q72 q73 q74 q75 q76 q77 q78 q79 q80 q81 q82 q83 q84 q85 q86 q87 q88 q89 q90 q91 q92 q93 q94 q95 q96 q97 q98 q99 q100 q101 q102 q103 q104 q105 q106 q107 q108 q109 q110 q111 q112 q113 q114 q115 q116 q117 q118 q119 q120 q121 q122 q123 q124 q125 q126 q127 q128 q129 q130 q131 q132 q133 q134 q135 q136 q137 q138 q139 q140 q141 q142 q143 q144 q145 q146 q147 q148 q149 q150 q151 q152 q153 q154 q155 q156 q157 q158 q159 q160 q161 q162 q163 q164 q165 q166 q167 q168 q169 q170 q171 q172 q173 q174 q175 q176 q177 q178 q179 q180 q181 q182 q183 q184 q185 q186 q187 q188 q189 q190 q191 q192 q193 q194 q195 q196 q197 q198 q199 q200 q201 q202 q203 q204 q205 q206 q207 q208 q209 q210 q211 q212 q213 q214 q215 q216 q217 q218 q219 q220 q221 q222 q223 q224 q225 q226 q227 q228 q229 q230 q231 q232 q233 q234 q235 q236 q237 q238 q239 q240 q241 q242 q243 q244 q245 q246 q247 q248 q249 q250 q251 q252 q253 q254 q255 q256 q257 q258 q259 q260 q261 q262 q263 q264 q265 q266 q267 q268 q269 q270 q271 q272 q273 q274 q275 q276 q277 q278 q279 q280 q281 q282 q283 q284 q285 q286 q287 q288 q289 q290 q291 q292 q293 q294 q295 q296 q297 q298 q299 q300 q301 q302 q303 q304 q305 q306 q307 q308 q309 q310 q311 q312 q313 q314 q315 q316 q317 q318 q319 q320 q321 : Value} :
    Code.wp Try.prog mtail4.1 (bodyPost Try.prog Try.f44 (fun e w' => e = .returned (.tuple #[.int .i64 r1, .bool r2]) ∧ ∃ v', MkAt w' gm w0.heap.size c ⟨A1, c1, A2, c2, A3, c3, A4, c4⟩ t l' v' ∧ KeepM W v w' v' gm ∧ Below w0.heap.size w0 w')) { tmps := List.toArray ((.pointer (some ⟨gm, 0, none⟩)) :: q1 :: (.int .i64 parent) :: (.int .i64 x) :: q4 :: q5 :: q6 :: q7 :: q8 :: q9 :: (.pointer (some ⟨gs, 0, none⟩)) :: (.int .i64 slot) :: (.int .i64 ((l.length : Int) + 1)) :: (.string ⟨#[]⟩) :: q14 :: q15 :: q16 :: q17 :: q18 :: q19 :: q20 :: q21 :: q22 :: q23 :: q24 :: q25 :: q26 :: q27 :: q28 :: q29 :: q30 :: q31 :: q32 :: q33 :: q34 :: q35 :: q36 :: q37 :: q38 :: q39 :: q40 :: q41 :: q42 :: q43 :: q44 :: q45 :: q46 :: q47 :: q48 :: q49 :: q50 :: q51 :: q52 :: q53 :: q54 :: q55 :: q56 :: q57 :: q58 :: q59 :: q60 :: q61 :: q62 :: q63 :: q64 :: q65 :: q66 :: q67 :: q68 :: q69 :: q70 :: q71 :: q72 :: q73 :: q74 :: q75 :: q76 :: q77 :: q78 :: q79 :: q80 :: q81 :: q82 :: q83 :: q84 :: q85 :: q86 :: q87 :: q88 :: q89 :: q90 :: q91 :: q92 :: q93 :: q94 :: q95 :: q96 :: q97 :: q98 :: q99 :: q100 :: q101 :: q102 :: q103 :: q104 :: q105 :: q106 :: q107 :: q108 :: q109 :: q110 :: q111 :: q112 :: q113 :: q114 :: q115 :: q116 :: q117 :: q118 :: q119 :: q120 :: q121 :: q122 :: q123 :: q124 :: q125 :: q126 :: q127 :: q128 :: q129 :: q130 :: q131 :: q132 :: q133 :: q134 :: q135 :: q136 :: q137 :: q138 :: q139 :: q140 :: q141 :: q142 :: q143 :: q144 :: q145 :: q146 :: q147 :: q148 :: q149 :: q150 :: q151 :: q152 :: q153 :: q154 :: q155 :: q156 :: q157 :: q158 :: q159 :: q160 :: q161 :: q162 :: q163 :: q164 :: q165 :: q166 :: q167 :: q168 :: q169 :: q170 :: q171 :: q172 :: q173 :: q174 :: q175 :: q176 :: q177 :: q178 :: q179 :: q180 :: q181 :: q182 :: q183 :: q184 :: q185 :: q186 :: q187 :: q188 :: q189 :: q190 :: q191 :: q192 :: q193 :: q194 :: q195 :: q196 :: q197 :: q198 :: q199 :: q200 :: q201 :: q202 :: q203 :: q204 :: q205 :: q206 :: q207 :: q208 :: q209 :: q210 :: q211 :: q212 :: q213 :: q214 :: q215 :: q216 :: q217 :: q218 :: q219 :: q220 :: q221 :: q222 :: q223 :: q224 :: q225 :: q226 :: q227 :: q228 :: q229 :: q230 :: q231 :: q232 :: q233 :: q234 :: q235 :: q236 :: q237 :: q238 :: q239 :: q240 :: q241 :: q242 :: q243 :: q244 :: q245 :: q246 :: q247 :: q248 :: q249 :: q250 :: q251 :: q252 :: q253 :: q254 :: q255 :: q256 :: q257 :: q258 :: q259 :: q260 :: q261 :: q262 :: q263 :: q264 :: q265 :: q266 :: q267 :: q268 :: q269 :: q270 :: q271 :: q272 :: q273 :: q274 :: q275 :: q276 :: q277 :: q278 :: q279 :: q280 :: q281 :: q282 :: q283 :: q284 :: q285 :: q286 :: q287 :: q288 :: q289 :: q290 :: q291 :: q292 :: q293 :: q294 :: q295 :: q296 :: q297 :: q298 :: q299 :: q300 :: q301 :: q302 :: q303 :: q304 :: q305 :: q306 :: q307 :: q308 :: q309 :: q310 :: q311 :: q312 :: q313 :: q314 :: q315 :: q316 :: q317 :: q318 :: q319 :: q320 :: q321 :: []), defers := [] } W0 := by
  dsimp only [mtail4]
  go_upto_region 4 with fail
  have HACT := Aside0.mk (fun W' (hb : Below W0.heap.size W0 W') => HAC.out W' (below_step HB.out hb))
  clear HAC
  go_cut [14, 15] (fun s14 s15 wz => ∃ ga : Nat, s14 = .pointer (some ⟨ga, 0, none⟩) ∧ s15 = .bool a6 ∧ Aside0 (wz.heap[ga]? = some (.cells #[.int .i64 a0, .int .i64 a1, .int .i64 a2, .string a3, .string a4, .string ver] 100 (0, 0))) ∧ Aside0 (Below W0.heap.size W0 wz))
  case first =>
    have m3 : W0.cell? ⟨gm, 3, none⟩ = some (.slice A3 c.ch.length c3) := (blk_cell HM.out.blk 3).trans rfl
    have g0 : W0.cell? ⟨gs, 0, none⟩ = some (.string s.f0) := (blk_cell HG.out 0).trans rfl
    refine start_ (n := 15) (S := fun w' => Below W0.heap.size W0 w') (ds := [13]) (bz 15 0) (by kernel_rfl) rfl rfl (Below.refl _ _).drew (fun hHeld => ?_)
    refine with_tabW mkT.tab4 mkT.bits4 (fun HT_ HW_ => ?_)
    generalize W0.drew = wd at hHeld ⊢
    refine pu_ 0 (some 47) (bz 15 1) HT_ rfl rfl ?_
    refine pu_ 1 (some 48) (bz 15 3) HT_ rfl rfl ?_
    refine pu_ 2 (some 49) (bz 15 7) HT_ rfl rfl ?_
    refine pu_ 3 (some 50) (bz 15 15) HT_ rfl rfl ?_
    refine tk_ 4 (some 51) (bz 15 31) HT_ HW_ rfl rfl hHeld ?_ (by intro w' hS; replace m3 := below_at hS m3; go_simp; with_reducible rfl)
    refine pu_ 5 (some 52) (bz 15 63) HT_ rfl rfl ?_
    refine tk_ 6 (some 53) (bz 15 127) HT_ HW_ rfl rfl hHeld ?_ (by intro w' hS; replace g0 := below_at hS g0; go_simp; with_reducible rfl)
    refine pu_ 7 (some 54) (bz 15 255) HT_ rfl rfl ?_
    refine join_ (σ := Nat) 2 (bz 15 8191) (fun s => [(55, .tuple #[.agg #[.int .i64 a0, .int .i64 a1, .int .i64 a2, .string a3, .string a4, .string ver], .bool a6]), (14, .pointer (some ⟨s, 0, none⟩)), (46, .tuple #[.agg #[.int .i64 a0, .int .i64 a1, .int .i64 a2, .string a3, .string a4, .string ver], .bool a6]), (56, .agg #[.int .i64 a0, .int .i64 a1, .int .i64 a2, .string a3, .string a4, .string ver]), (57, .bool a6)]) (fun s w' => Below W0.heap.size W0 w' ∧ w'.heap[s]? = some (.cells #[.int .i64 0, .int .i64 0, .int .i64 0, .string ⟨#[]⟩, .string ⟨#[]⟩, .string ⟨#[]⟩] 100 (0, 0)) ∧ W0.heap.size ≤ s) ?_ ?_
    rotate_left
    · intro hCont
      refine two_ (i := 8) (j := 12) (Ni := some 55) (Nj := some 14) (bz 15 511) (bz 15 4351) rfl rfl rfl rfl (two_of HT_.out (by kernel_rfl)) (by decide) (by decide) (fun K hK => ?_) (fun K hK => ?_)
      · refine goes_ Try.func39 (by kernel_rfl) rfl #[.slice A3 c.ch.length c3, .string s.f0, .int .i64 slot] (by rfl) rfl rfl (by (try simp only [List.map_toArray, List.map_cons, List.map_nil]); first | done | rfl) ?_
        with_reducible refine (HACT.out _ hHeld).mono ?_
        rintro e wn ⟨rfl, hb⟩
        refine ⟨_, rfl, ?_⟩
        replace hHeld := below_step hHeld hb
        clear hb
        refine hK.out _ _ hHeld (fun hHeld => ?_)
        clear hK K
        refine norm_ (a' := ?_) ?_ ?_
        rotate_left
        · show Act.put _ (some 55) _ = _
          simp only [Act.put, List.setIfInBounds_toArray, List.set_cons_zero, List.set_cons_succ, i64_w, i32_w]
          rfl
        refine pu_ 9 (some 46) (bz 15 1023) HT_ rfl rfl ?_
        refine pu_ 10 (some 56) (bz 15 2047) HT_ rfl rfl ?_
        refine pu_ 11 (some 57) (bz 15 4095) HT_ rfl rfl ?_
        refine one_ (i := 12) (N := some 14) (bz 15 8191) rfl rfl (one_of HT_.out (by kernel_rfl)) (by decide) (fun K hK => ?_)
        refine box_step ?hg (N := 14) ?hd (cs := #[.int .i64 0, .int .i64 0, .int .i64 0, .string ⟨#[]⟩, .string ⟨#[]⟩, .string ⟨#[]⟩]) (t := 100) ?hr ?_; (case hd => rfl); (case hg => rfl); (case hr => first | (go_simp; done) | (go_simp; rfl))
        intro sb hsb ws hbx hb
        have hge : W0.heap.size ≤ sb := by rw [hsb]; exact hHeld.size
        clear hsb
        replace hHeld := below_step hHeld hb
        clear hb
        refine hK.out _ _ hHeld (fun hHeld => ?_)
        clear hK K
        refine norm_ (a' := ?_) ?_ ?_
        rotate_left
        · show Act.put _ (some 14) _ = _
          simp only [Act.put, List.setIfInBounds_toArray, List.set_cons_zero, List.set_cons_succ, i64_w, i32_w]
          rfl
        exact norm_ (by simp only [putAll, Act.put, List.setIfInBounds_toArray, List.set_cons_zero, List.set_cons_succ]) (hCont sb _ ⟨hHeld, hbx, hge⟩)
      · refine box_step ?hg (N := 14) ?hd (cs := #[.int .i64 0, .int .i64 0, .int .i64 0, .string ⟨#[]⟩, .string ⟨#[]⟩, .string ⟨#[]⟩]) (t := 100) ?hr ?_; (case hd => rfl); (case hg => rfl); (case hr => first | (go_simp; done) | (go_simp; rfl))
        intro sb hsb ws hbx hb
        have hge : W0.heap.size ≤ sb := by rw [hsb]; exact hHeld.size
        clear hsb
        replace hHeld := below_step hHeld hb
        clear hb
        refine hK.out _ _ hHeld (fun hHeld => ?_)
        clear hK K
        refine norm_ (a' := ?_) ?_ ?_
        rotate_left
        · show Act.put _ (some 14) _ = _
          simp only [Act.put, List.setIfInBounds_toArray, List.set_cons_zero, List.set_cons_succ, i64_w, i32_w]
          rfl
        refine one_ (i := 8) (N := some 55) (bz 15 4607) rfl rfl (one_of HT_.out (by kernel_rfl)) (by decide) (fun K hK => ?_)
        refine goes_ Try.func39 (by kernel_rfl) rfl #[.slice A3 c.ch.length c3, .string s.f0, .int .i64 slot] (by rfl) rfl rfl (by (try simp only [List.map_toArray, List.map_cons, List.map_nil]); first | done | rfl) ?_
        with_reducible refine (HACT.out _ hHeld).mono ?_
        rintro e wn ⟨rfl, hb⟩
        refine ⟨_, rfl, ?_⟩
        replace hbx := blk_below hbx hb
        replace hHeld := below_step hHeld hb
        clear hb
        refine hK.out _ _ hHeld (fun hHeld => ?_)
        clear hK K
        refine norm_ (a' := ?_) ?_ ?_
        rotate_left
        · show Act.put _ (some 55) _ = _
          simp only [Act.put, List.setIfInBounds_toArray, List.set_cons_zero, List.set_cons_succ, i64_w, i32_w]
          rfl
        refine pu_ 9 (some 46) (bz 15 5119) HT_ rfl rfl ?_
        refine pu_ 10 (some 56) (bz 15 6143) HT_ rfl rfl ?_
        refine pu_ 11 (some 57) (bz 15 8191) HT_ rfl rfl ?_
        exact norm_ (by simp only [putAll, Act.put, List.setIfInBounds_toArray, List.set_cons_zero, List.set_cons_succ]) (hCont sb _ ⟨hHeld, hbx, hge⟩)
    rintro sb w5 ⟨hHeld, hbx, hge⟩
    have hK5 := Aside0.mk hbx
    have c10 := (blk_cell hbx 0).trans rfl
    have c11 := (blk_cell hbx 1).trans rfl
    have c12 := (blk_cell hbx 2).trans rfl
    have c13 := (blk_cell hbx 3).trans rfl
    have c14 := (blk_cell hbx 4).trans rfl
    have c15 := (blk_cell hbx 5).trans rfl
    have d10 := blk_frozen hbx 0
    have d11 := blk_frozen hbx 1
    have d12 := blk_frozen hbx 2
    have d13 := blk_frozen hbx 3
    have d14 := blk_frozen hbx 4
    have d15 := blk_frozen hbx 5
    clear hbx
    refine norm_ (a' := ?_) ?_ ?_
    rotate_left
    · simp only [putAll, Act.put, List.setIfInBounds_toArray, List.set_cons_zero, List.set_cons_succ]
      rfl
    refine last_ (i := 13) (N := none) (bz 15 16383) rfl rfl (one_of HT_.out (by kernel_rfl)) (by decide) (fun K hK => ?_)
    rw [if_pos (by rfl)]
    go_simp
    refine hK.out _ _ ?_
    clear hK K
    refine pu_ 14 (some 15) (bz 15 32767) HT_ rfl rfl ?_
    refine done_ (done_of HT_.out (by kernel_rfl)) ?_
    go_wp2
    go_meet
    exact ⟨sb, rfl, rfl, ⟨fill6 hK5.out _ _ _ _ _ _⟩, ⟨below6 hHeld hge _ _ _ _ _ _⟩⟩
  case rest =>
  obtain ⟨ga, rfl, rfl, HGA, HB4⟩ := hcut
  clear HACT
  have x5 : wc.cell? ⟨ga, 5, none⟩ = some (.string ver) := (blk_cell HGA.out 5).trans rfl
  go_upto_if 58 with fail
  go_cut [13] (fun s13 wz => s13 = .string ver ∧ Aside0 (Below W0.heap.size W0 wz))
  case first =>
    cases a6 with
    | true =>
      clear HVER
      go_wp2_with fail
      go_meet
      exact ⟨rfl, HB4⟩
    | false =>
      have ev2 := HVER.out rfl
      go_wp2_with fail
      go_meet
      exact ⟨by rw [ev2], HB4⟩
  case rest =>
  clear HB4 x5 HGA
  obtain ⟨rfl, HB4⟩ := hcut
  refine ‹∀ (a : Go.Act) (w : World), Code.wp Try.prog mtail7.1 _ a w → _› _ _ (mserve_tail7 w0 gm gs c A1 c1 A2 c2 A3 c3 A4 c4 t s A5 c5 slot sm n ver parent x wk fk l r1 r2 l' W _ v z1 z2 L2 hl hx0 hx1 hwk0 hwk1 hz1 hz2 hz3 hd hd1 hn5 hgm hgs hw0 hw1 hj0 hj1 HA HF HC HS5 HCF ⟨HM.out.below HB4.out⟩ ⟨HK.out.trans (KeepM.of_below HB4.out)⟩ ⟨below_step HB.out HB4.out⟩ ⟨blk_below HG.out HB4.out⟩ IH)
def mkT.T1 : Bool × List (List Nat × List Nat) := (true, [([], []), ([0], [0]), ([1], [1]), ([2], [2]), ([3], [3]), ([], []), ([4, 5], [4, 5]), ([6], [6]), ([], []), ([8], [8]), ([9], [9]), ([10], [10]), ([11], [11]), ([], []), ([13, 7, 12, 0, 1, 2, 3, 4, 5, 6, 7, 13], [7, 13]), ([12, 14, 0, 1, 2, 3, 4, 5, 6, 7, 8, 9, 10, 11, 12, 13, 14], [12])])
def mkT.B1 : List Nat := [0, 1, 3, 7, 15, 0, 63, 127, 0, 256, 768, 1792, 3840, 0, 16383, 32767]
theorem mkT.tab1 : rtab .any (opsOf Try.f44 1) = mkT.T1 := by kernel_rfl
theorem mkT.bits1 : waitsOk mkT.T1.2 mkT.B1 = true := by kernel_rfl
set_option maxHeartbeats 8000000 in
set_option maxRecDepth 100000 in
theorem mserve_step (w0 : World) (gm : Nat) (c : Cfg) (A1 : Option Addr) (c1 : Nat) (A2 : Option Addr) (c2 : Nat) (A3 : Option Addr) (c3 : Nat) (A4 : Option Addr) (c4 : Nat) (t slot : Int) (n j : Nat) (hslot : slot = t / 1048576) (hR : CfgR w0 ⟨A1, c1, A2, c2, A3, c3, A4, c4⟩ c) (hSys : Sys c) (hgm : w0.heap.size ≤ gm) (hn : 100 ≤ n) (hj : j < c.sv.length) (s : S64) (hs : c.sv[j] = s)
    (IH : Aside0 (∀ (i : Nat) (nm : ByteArray) (hi : i < s.f5.length) (hnm : s.f5[i] = nm) (parent x : Int) (l : List Sp) (r1 : Int) (r2 : Bool) (l' : List Sp) (W : World) (v : Value), serveV c slot t (smC c.sv) n nm parent x l = some (r1, r2, l') → MkAt W gm w0.heap.size c ⟨A1, c1, A2, c2, A3, c3, A4, c4⟩ t l v → Below w0.heap.size w0 W → Calls Try.prog 44 #[.pointer (some ⟨gm, 0, none⟩), .int .i64 (svIdx c.sv nm), .int .i64 parent, .int .i64 x] W fun e w' => e = .returned (.tuple #[.int .i64 r1, .bool r2]) ∧ ∃ v', MkAt w' gm w0.heap.size c ⟨A1, c1, A2, c2, A3, c3, A4, c4⟩ t l' v' ∧ KeepM W v w' v' gm ∧ Below w0.heap.size w0 w')) (parent x : Int) (l : List Sp) (r1 : Int) (r2 : Bool) (l' : List Sp) (W : World) (v : Value) (h : serveV c slot t (smC c.sv) (n + 1) (nm4 j) parent x l = some (r1, r2, l')) (hM : MkAt W gm w0.heap.size c ⟨A1, c1, A2, c2, A3, c3, A4, c4⟩ t l v) (hB : Below w0.heap.size w0 W) :
    Calls Try.prog 44 #[.pointer (some ⟨gm, 0, none⟩), .int .i64 (j : Int), .int .i64 parent, .int .i64 x] W fun e w' => e = .returned (.tuple #[.int .i64 r1, .bool r2]) ∧ ∃ v', MkAt w' gm w0.heap.size c ⟨A1, c1, A2, c2, A3, c3, A4, c4⟩ t l' v' ∧ KeepM W v w' v' gm ∧ Below w0.heap.size w0 w' := by
  have hCF : ∀ W', Below w0.heap.size w0 W' → CfgR W' ⟨A1, c1, A2, c2, A3, c3, A4, c4⟩ c := fun W' hb => hR.below hb
  have HCF := Aside0.mk hCF
  unfold serveV at h
  rw [hSys.look j hj] at h
  simp only [Option.bind_some] at h
  obtain ⟨act, hact, h⟩ := Option.bind_eq_some_iff.mp h
  try dsimp only at h
  rw [hs] at h
  by_cases hg0 : l.length < 1000 ∧ 0 ≤ x ∧ x ≤ BIG ∧ 0 ≤ s.f3 ∧ s.f3 ≤ 1048576 ∧ 0 ≤ s.f2 ∧ s.f2 ≤ 1048576
  case neg => rw [if_neg hg0] at h; cases h
  rw [if_pos hg0] at h
  obtain ⟨hl, hx0, hx1, hj0, hj1, hw0, hw1⟩ := hg0
  unfold BIG at hx1
  have hnm : nm4 j = s.f0 := by rw [← hs, hSys.name j hj]
  rw [hnm] at h hact
  have hd := hSys.delay0
  have hd1 : c.delay ≤ 1048576 := by have := hSys.delay1; omega
  have hchl : c.ch.length ≤ 40 := by have := hSys.chg; omega
  have hac := act_ok c.ch hchl s.f0 slot
  rw [hac.1 n hn] at hact
  have hver : act.2.2.2.2.2.2 = false → act.2.2.2.2.2.1 = ⟨#[]⟩ := fun hf => by
    injection hact with hact
    rw [← hact] at hf ⊢
    rcases hac.2 with e | ⟨y, _, e, _⟩
    · rw [e]; rfl
    · rw [e] at hf; cases hf
  have HAC := Aside0.mk (fun W' (hb : Below w0.heap.size w0 W') => active_calls n A3 c3 c.ch s.f0 slot act W' (hCF W' hb).r3 (hCF W' hb).l3 ((hac.1 n hn).trans hact))
  clear hac hact
  obtain ⟨a0, a1, a2, a3, a4, ver, a6⟩ := act
  dsimp only at h hver HAC
  obtain ⟨wf, hwf⟩ : ∃ wf : Int × Int, wf = faultsV s.f0 ver slot c.fl (s.f2 + rollV c.seed t ((l.length : Int) + 1) 1 % (s.f3 + 1)) s.f4 := ⟨_, rfl⟩
  rw [← hwf] at h
  obtain ⟨wk, fk⟩ := wf
  dsimp only at h
  by_cases hwk : 0 ≤ wk ∧ wk ≤ 1099511627776
  case neg => rw [if_neg hwk] at h; cases h
  rw [if_pos hwk] at h
  obtain ⟨q, hq, h⟩ := Option.bind_eq_some_iff.mp h
  obtain ⟨z1, z2, L2⟩ := q
  dsimp only at h
  by_cases hz : 0 ≤ z1 ∧ z1 ≤ BIG ∧ l.length < L2.length
  case neg => rw [if_neg hz] at h; cases h
  rw [if_pos hz] at h
  injection h with h
  injection h with hA1 h
  injection h with hA2 hA3
  obtain ⟨hz1, hz2, hz3⟩ := hz
  obtain ⟨hwk0, hwk1⟩ := hwk
  unfold BIG at hz2
  have HA := Aside0.mk (And.intro hA1 (And.intro hA2 hA3))
  have HF := Aside0.mk hwf.symm
  have HC := Aside0.mk hq
  have HVER := Aside0.mk hver
  clear hA1 hA2 hA3 hwf hq hver
  have HM := Aside0.mk hM
  have HB := Aside0.mk hB
  clear hM
  obtain ⟨ad1, A5, c5, e1, h0, h1, h2, h3, h4, h5, _, k5⟩ := at_T64 (hCF W hB).r1 (j : Int) (by omega) (by omega)
  dsimp only at e1
  subst e1
  rw [rd_T64_get c.sv j hj, hs] at h0 h1 h2 h3 h4 h5 k5
  simp only [Int.toNat_natCast] at h0 h1 h2 h3 h4 h5
  have hn5 : s.f5.length ≤ 9223372036854775807 := k5.2.1
  have HS5 : Aside0 (∀ W', Below w0.heap.size w0 W' → Kd.C Kd.string W' A5 s.f5.length s.f5) := ⟨fun W' hb => by
    obtain ⟨ad2, B5, d5, e2, _, _, _, _, _, h5', _, k5'⟩ := at_T64 (hCF W' hb).r1 (j : Int) (by omega) (by omega)
    dsimp only at e2
    injection e2 with e2
    subst e2
    rw [rd_T64_get c.sv j hj, hs] at h5' k5'
    simp only [Int.toNat_natCast] at h5'
    obtain ⟨ad3, C5, f5', e3, _, _, _, _, _, h5'', _, k5''⟩ := at_T64 hR.r1 (j : Int) (by omega) (by omega)
    dsimp only at e3
    injection e3 with e3
    subst e3
    rw [rd_T64_get c.sv j hj, hs] at h5'' k5''
    simp only [Int.toNat_natCast] at h5''
    have q1 := (hB.cell (World.block_lt_of_cell? w0 _ h5'')).trans h5''
    have q2 := (hb.cell (World.block_lt_of_cell? w0 _ h5'')).trans h5''
    rw [h5] at q1
    rw [h5'] at q2
    injection q1 with q1
    injection q2 with q2
    injection q1 with q1
    injection q2 with q2
    subst q1
    subst q2
    exact k5'⟩
  clear k5 hB
  have n0 : gm < W.heap.size := HM.out.lt
  go_enter Try.func44, Try.ntmps44
  go_upto_region 1 with fail
  go_cut [10, 11] (fun s10 s11 wz => ∃ gs : Nat, s10 = .pointer (some ⟨gs, 0, none⟩) ∧ s11 = .int .i64 slot ∧ Aside0 (wz.heap[gs]? = some (.cells (svCells s A5 c5) 64 (0, 0))) ∧ Aside0 (W.heap.size ≤ gs) ∧ Aside0 (Below W.heap.size W wz))
  case first =>
    have z1 : (0 : Int) ≤ (j : Int) := by omega
    have z2 : (j : Int) < (c.sv.length : Int) := by omega
    have m1 : W.cell? ⟨gm, 1, none⟩ = some (.slice (some ad1) c.sv.length c1) := (blk_cell HM.out.blk 1).trans rfl
    have m12 : W.cell? ⟨gm, 12, none⟩ = some (.int .i64 t) := (blk_cell HM.out.blk 12).trans rfl
    refine start_ (n := 16) (S := fun w' => Below W.heap.size W w') (ds := [14]) (bz 16 0) (by kernel_rfl) rfl rfl (Below.refl _ _).drew (fun hHeld => ?_)
    refine with_tabW mkT.tab1 mkT.bits1 (fun HT_ HW_ => ?_)
    generalize W.drew = wd at hHeld ⊢
    refine pu_ 0 (some 27) (bz 16 1) HT_ rfl rfl ?_
    refine pu_ 1 (some 28) (bz 16 3) HT_ rfl rfl ?_
    refine pu_ 2 (some 29) (bz 16 7) HT_ rfl rfl ?_
    refine pu_ 3 (some 30) (bz 16 15) HT_ rfl rfl ?_
    refine tk_ 4 (some 31) (bz 16 31) HT_ HW_ rfl rfl hHeld ?_ (by intro w' hS; replace m1 := below_at hS m1; go_simp; with_reducible rfl)
    refine pu_ 5 (some 32) (bz 16 63) HT_ rfl rfl ?_
    refine pu_ 6 (some 33) (bz 16 127) HT_ rfl rfl ?_
    refine tk_ 7 (some 34) (bz 16 255) HT_ HW_ rfl rfl hHeld ?_ (by intro w' hS; replace h0 := below_at hS h0; replace h1 := below_at hS h1; replace h2 := below_at hS h2; replace h3 := below_at hS h3; replace h4 := below_at hS h4; replace h5 := below_at hS h5; go_simp; with_reducible rfl)
    refine pu_ 8 (some 35) (bz 16 511) HT_ rfl rfl ?_
    refine pu_ 9 (some 36) (bz 16 1023) HT_ rfl rfl ?_
    refine pu_ 10 (some 37) (bz 16 2047) HT_ rfl rfl ?_
    refine tk_ 11 (some 38) (bz 16 4095) HT_ HW_ rfl rfl hHeld ?_ (by intro w' hS; replace m12 := below_at hS m12; go_simp; with_reducible rfl)
    refine join_ (σ := Nat) 2 (bz 16 16383) (fun s => [(39, .int .i64 (t / 1048576)), (10, .pointer (some ⟨s, 0, none⟩))]) (fun s w' => Below W.heap.size W w' ∧ w'.heap[s]? = some (.cells #[.string ⟨#[]⟩, .int .i64 0, .int .i64 0, .int .i64 0, .int .i64 0, .slice none 0 0] 64 (0, 0)) ∧ W.heap.size ≤ s) ?_ ?_
    rotate_left
    · intro hCont
      refine two_ (i := 12) (j := 13) (Ni := some 39) (Nj := some 10) (bz 16 8191) (bz 16 12287) rfl rfl rfl rfl (two_of HT_.out (by kernel_rfl)) (by decide) (by decide) (fun K hK => ?_) (fun K hK => ?_)
      · refine goes_ Try.func18 (by kernel_rfl) rfl #[.int .i64 t] (by rfl) rfl rfl (by (try simp only [List.map_toArray, List.map_cons, List.map_nil]); first | done | rfl) ?_
        with_reducible refine (span_Slot.calls t (t / 1048576) _ rfl).mono ?_
        rintro e wn ⟨rfl, ⟨nd, rfl⟩⟩
        refine ⟨_, rfl, ?_⟩
        replace hHeld := pw_below_drewN hHeld nd
        refine hK.out _ _ hHeld (fun hHeld => ?_)
        clear hK K
        refine norm_ (a' := ?_) ?_ ?_
        rotate_left
        · show Act.put _ (some 39) _ = _
          simp only [Act.put, List.setIfInBounds_toArray, List.set_cons_zero, List.set_cons_succ, i64_w, i32_w]
          rfl
        refine one_ (i := 13) (N := some 10) (bz 16 16383) rfl rfl (one_of HT_.out (by kernel_rfl)) (by decide) (fun K hK => ?_)
        refine box_step ?hg (N := 10) ?hd (cs := #[.string ⟨#[]⟩, .int .i64 0, .int .i64 0, .int .i64 0, .int .i64 0, .slice none 0 0]) (t := 64) ?hr ?_; (case hd => rfl); (case hg => rfl); (case hr => first | (go_simp; done) | (go_simp; rfl))
        intro sb hsb ws hbx hb
        have hge : W.heap.size ≤ sb := by rw [hsb]; exact hHeld.size
        clear hsb
        replace hHeld := below_step hHeld hb
        clear hb
        refine hK.out _ _ hHeld (fun hHeld => ?_)
        clear hK K
        refine norm_ (a' := ?_) ?_ ?_
        rotate_left
        · show Act.put _ (some 10) _ = _
          simp only [Act.put, List.setIfInBounds_toArray, List.set_cons_zero, List.set_cons_succ, i64_w, i32_w]
          rfl
        exact norm_ (by simp only [putAll, Act.put, List.setIfInBounds_toArray, List.set_cons_zero, List.set_cons_succ]) (hCont sb _ ⟨hHeld, hbx, hge⟩)
      · refine box_step ?hg (N := 10) ?hd (cs := #[.string ⟨#[]⟩, .int .i64 0, .int .i64 0, .int .i64 0, .int .i64 0, .slice none 0 0]) (t := 64) ?hr ?_; (case hd => rfl); (case hg => rfl); (case hr => first | (go_simp; done) | (go_simp; rfl))
        intro sb hsb ws hbx hb
        have hge : W.heap.size ≤ sb := by rw [hsb]; exact hHeld.size
        clear hsb
        replace hHeld := below_step hHeld hb
        clear hb
        refine hK.out _ _ hHeld (fun hHeld => ?_)
        clear hK K
        refine norm_ (a' := ?_) ?_ ?_
        rotate_left
        · show Act.put _ (some 10) _ = _
          simp only [Act.put, List.setIfInBounds_toArray, List.set_cons_zero, List.set_cons_succ, i64_w, i32_w]
          rfl
        refine one_ (i := 12) (N := some 39) (bz 16 16383) rfl rfl (one_of HT_.out (by kernel_rfl)) (by decide) (fun K hK => ?_)
        refine goes_ Try.func18 (by kernel_rfl) rfl #[.int .i64 t] (by rfl) rfl rfl (by (try simp only [List.map_toArray, List.map_cons, List.map_nil]); first | done | rfl) ?_
        with_reducible refine (span_Slot.calls t (t / 1048576) _ rfl).mono ?_
        rintro e wn ⟨rfl, ⟨nd, rfl⟩⟩
        refine ⟨_, rfl, ?_⟩
        replace hbx := blk_drewN hbx nd
        replace hHeld := pw_below_drewN hHeld nd
        refine hK.out _ _ hHeld (fun hHeld => ?_)
        clear hK K
        refine norm_ (a' := ?_) ?_ ?_
        rotate_left
        · show Act.put _ (some 39) _ = _
          simp only [Act.put, List.setIfInBounds_toArray, List.set_cons_zero, List.set_cons_succ, i64_w, i32_w]
          rfl
        exact norm_ (by simp only [putAll, Act.put, List.setIfInBounds_toArray, List.set_cons_zero, List.set_cons_succ]) (hCont sb _ ⟨hHeld, hbx, hge⟩)
    rintro sb w5 ⟨hHeld, hbx, hge⟩
    have hK5 := Aside0.mk hbx
    have c10 := (blk_cell hbx 0).trans rfl
    have c11 := (blk_cell hbx 1).trans rfl
    have c12 := (blk_cell hbx 2).trans rfl
    have c13 := (blk_cell hbx 3).trans rfl
    have c14 := (blk_cell hbx 4).trans rfl
    have c15 := (blk_cell hbx 5).trans rfl
    have d10 := blk_frozen hbx 0
    have d11 := blk_frozen hbx 1
    have d12 := blk_frozen hbx 2
    have d13 := blk_frozen hbx 3
    have d14 := blk_frozen hbx 4
    have d15 := blk_frozen hbx 5
    clear hbx
    refine norm_ (a' := ?_) ?_ ?_
    rotate_left
    · simp only [putAll, Act.put, List.setIfInBounds_toArray, List.set_cons_zero, List.set_cons_succ]
      rfl
    refine last_ (i := 14) (N := none) (bz 16 32767) rfl rfl (one_of HT_.out (by kernel_rfl)) (by decide) (fun K hK => ?_)
    rw [if_pos (by rfl)]
    go_simp
    refine hK.out _ _ ?_
    clear hK K
    refine pu_ 15 (some 11) (bz 16 65535) HT_ rfl rfl ?_
    refine done_ (done_of HT_.out (by kernel_rfl)) ?_
    go_wp2
    go_meet
    exact ⟨sb, rfl, by rw [hslot], ⟨fill6 hK5.out _ _ _ _ _ _⟩, ⟨hge⟩, ⟨below6 hHeld hge _ _ _ _ _ _⟩⟩
  case rest =>
  obtain ⟨gs, rfl, rfl, HG, HGE, HB1⟩ := hcut
  have hgs : gs ≠ gm := by have := HGE.out; omega
  clear h0 h1 h2 h3 h4 h5 n0
  obtain ⟨Av, cpv, ev⟩ := own_slice HM.out.own
  have m13 : wc.cell? ⟨gm, 13, none⟩ = some (.slice Av l.length cpv) := (blk_cell (blk_below HM.out.blk HB1.out) 13).trans (by rw [ev]; rfl)
  have s1 : IntKind.i64.wrap ((l.length : Int) + 1) = (l.length : Int) + 1 := IntWalk.i64_in _ (by omega)
  go_upto_region 3 with fail
  go_cut [13] (fun s13 wz => s13 = .string ⟨#[]⟩ ∧ Aside0 (Below W.heap.size W wz) ∧ Aside0 (wz.heap[gs]? = some (.cells (svCells s A5 c5) 64 (0, 0))))
  case first =>
    clear m13 s1 ev
    go_wp2_with fail
    go_meet
    exact ⟨rfl, HB1, HG⟩
  case rest =>
  clear HB1 HG HGE m13 s1 ev
  obtain ⟨rfl, HB1, HG⟩ := hcut
  refine ‹∀ (a : Go.Act) (w : World), Code.wp Try.prog mtail4.1 _ a w → _› _ _ (mserve_tail4 w0 gm gs c (some ad1) c1 A2 c2 A3 c3 A4 c4 t s A5 c5 slot (smC c.sv) n ver parent x wk fk l r1 r2 l' W _ v z1 z2 L2 a0 a1 a2 a3 a4 a6 HAC HVER hl hx0 hx1 hwk0 hwk1 hz1 hz2 hz3 hd hd1 hn5 hgm hgs HA hw0 hw1 hj0 hj1 HF HC HS5 HCF ⟨HM.out.below HB1.out⟩ ⟨KeepM.of_below HB1.out⟩ ⟨below_step HB.out HB1.out⟩ HG IH)
theorem mserve_calls (w0 : World) (gm : Nat) (c : Cfg) (p : CfgAt) (t : Int) (hR : CfgR w0 p c) (hSys : Sys c) (hgm : w0.heap.size ≤ gm) : ∀ (d j : Nat), j < c.sv.length → c.sv.length ≤ j + d → ∀ (parent x : Int) (l : List Sp) (r1 : Int) (r2 : Bool) (l' : List Sp) (W : World) (v : Value), serveV c (t / 1048576) t (smC c.sv) (100 + d) (nm4 j) parent x l = some (r1, r2, l') → MkAt W gm w0.heap.size c p t l v → Below w0.heap.size w0 W →
    Calls Try.prog 44 #[.pointer (some ⟨gm, 0, none⟩), .int .i64 (j : Int), .int .i64 parent, .int .i64 x] W fun e w' => e = .returned (.tuple #[.int .i64 r1, .bool r2]) ∧ ∃ v', MkAt w' gm w0.heap.size c p t l' v' ∧ KeepM W v w' v' gm ∧ Below w0.heap.size w0 w'
  | 0, j, hj, hd => by omega
  | d + 1, j, hj, hd => fun parent x l r1 r2 l' W v h hM hB => by
    obtain ⟨A1, c1, A2, c2, A3, c3, A4, c4⟩ := p
    refine mserve_step w0 gm c A1 c1 A2 c2 A3 c3 A4 c4 t _ (100 + d) j rfl hR hSys hgm (by omega) hj _ rfl ⟨fun i nm hi hnm parent x l r1 r2 l' W v h hM hB => ?_⟩ parent x l r1 r2 l' W v h hM hB
    obtain ⟨k, hk1, hk2, rfl⟩ := hSys.calls j hj nm (hnm ▸ List.getElem_mem _)
    rw [hSys.idx k hk2]
    exact mserve_calls w0 gm c _ t hR hSys hgm d k hk2 (by omega) parent x l r1 r2 l' W v h hM hB
theorem traceId_slot (slot k : Int) (hk0 : 0 ≤ k) (hk1 : k ≤ 1000) : traceId slot k / 1048576 = slot := by
  unfold traceId
  omega
theorem mtrace_calls (w0 : World) (gm : Nat) (c : Cfg) (p : CfgAt) (slot k : Int) (hs0 : 0 ≤ slot) (hs1 : slot ≤ 1000) (hk0 : 0 ≤ k) (hk1 : k ≤ 1000) (hR : CfgR w0 p c) (hSys : Sys c) (hgm : w0.heap.size ≤ gm) (W : World) (v : Value) (hM : MkAt W gm w0.heap.size c p (traceId slot k) [] v) (hB : Below w0.heap.size w0 W) :
    ∃ r1 r2, Calls Try.prog 44 #[.pointer (some ⟨gm, 0, none⟩), .int .i64 0, .int .i64 0, .int .i64 (1000 * slot + 7 * k)] W fun e w' => e = .returned (.tuple #[.int .i64 r1, .bool r2]) ∧ ∃ v', MkAt w' gm w0.heap.size c p (traceId slot k) (traceI c slot k) v' ∧ KeepM W v w' v' gm ∧ Below w0.heap.size w0 w' := by
  have h0 := hSys.n0
  have h4 := hSys.n4
  have hb := lng_le c.sv.length h4
  have hBIG : BIG = 1152921504606846976 := rfl
  have he := (serve_eq c hSys slot (traceId slot k) c.sv.length 0 (by omega) (by omega) (100 + c.sv.length) (Nat.le_refl _) 0 (1000 * slot + 7 * k) [] (by simp only [List.length_nil]; omega) (by omega) (by rw [hBIG]; omega)).1
  have e : serveV c (traceId slot k / 1048576) = serveV c slot := by rw [traceId_slot slot k hk0 hk1]
  rw [← e] at he
  exact ⟨_, _, mserve_calls w0 gm c p (traceId slot k) hR hSys hgm c.sv.length 0 (by omega) (by omega) 0 _ [] _ _ _ W v he hM hB⟩
theorem Count_ok (k : Nat) (c : Cfg) (p : CfgAt) (w : World) (hR : CfgR w p c) (hck : ckAll k c = some 0) (hne : 1 ≤ c.sv.length) : Calls Try.prog 21 #[c.val p] w fun e w' => e = .returned (.tuple #[.int .i64 (cntOf c.sv), .int .i64 0]) ∧ Below w.heap.size w w' := by
  have HR := Aside0.mk hR
  have HCK := Aside0.mk hck
  clear hR hck
  obtain ⟨A1, c1, A2, c2, A3, c3, A4, c4⟩ := p
  go_enter Try.func21, Try.ntmps21
  go_wp2_with fail
  refine (check_calls k c ⟨A1, c1, A2, c2, A3, c3, A4, c4⟩ 0 _ (HR.out.below (below_alloc (Below.refl _ _) _)) HCK.out).mono ?_
  rintro e w1 ⟨rfl, hb1⟩
  have HB := Aside0.mk (below_step (below_alloc (Below.refl w.heap.size w) _) hb1)
  have HX := Aside0.mk (blk_below (blk_new w (.cells (c.cells ⟨A1, c1, A2, c2, A3, c3, A4, c4⟩) 31)) hb1)
  clear hb1 HCK
  have m0 : w1.cell? ⟨w.heap.size, 0, none⟩ = some (.int .i64 c.seed) := (blk_cell HX.out 0).trans rfl
  have m1 : w1.cell? ⟨w.heap.size, 1, none⟩ = some (.slice A1 c.sv.length c1) := (blk_cell HX.out 1).trans rfl
  have m2 : w1.cell? ⟨w.heap.size, 2, none⟩ = some (.slice A2 c.off.length c2) := (blk_cell HX.out 2).trans rfl
  have m3 : w1.cell? ⟨w.heap.size, 3, none⟩ = some (.slice A3 c.ch.length c3) := (blk_cell HX.out 3).trans rfl
  have m4 : w1.cell? ⟨w.heap.size, 4, none⟩ = some (.slice A4 c.fl.length c4) := (blk_cell HX.out 4).trans rfl
  have m5 : w1.cell? ⟨w.heap.size, 5, none⟩ = some (.int .i64 c.sfrom) := (blk_cell HX.out 5).trans rfl
  have m6 : w1.cell? ⟨w.heap.size, 6, none⟩ = some (.int .i64 c.sto) := (blk_cell HX.out 6).trans rfl
  have m7 : w1.cell? ⟨w.heap.size, 7, none⟩ = some (.int .i64 c.per) := (blk_cell HX.out 7).trans rfl
  have m8 : w1.cell? ⟨w.heap.size, 8, none⟩ = some (.int .i64 c.delay) := (blk_cell HX.out 8).trans rfl
  have m9 : w1.cell? ⟨w.heap.size, 9, none⟩ = some (.int .i64 c.chunk) := (blk_cell HX.out 9).trans rfl
  have m10 : w1.cell? ⟨w.heap.size, 10, none⟩ = some (.int .i64 c.loss) := (blk_cell HX.out 10).trans rfl
  have m11 : w1.cell? ⟨w.heap.size, 11, none⟩ = some (.int .i64 c.rep) := (blk_cell HX.out 11).trans rfl
  go_wp2_with fail
  refine (count_calls c ⟨A1, c1, A2, c2, A3, c3, A4, c4⟩ w1 (HR.out.below HB.out) hne).mono ?_
  rintro e w2 ⟨rfl, hb2⟩
  have HB2 := Aside0.mk (below_step HB.out hb2)
  clear hb2 m0 m1 m2 m3 m4 m5 m6 m7 m8 m9 m10 m11
  go_wp2_with fail
  go_returns
  exact ⟨by rfl, HB2.out⟩
theorem moffset_calls (c : Cfg) (p : CfgAt) (clock : Int) (w : World) (hR : CfgR w p c) : Calls Try.prog 30 #[c.val p, .int .i64 clock] w fun e w' => e = .returned (.tuple #[.int .i64 (offOf c.off clock).1, .bool (offOf c.off clock).2]) ∧ Below w.heap.size w w' := by
  obtain ⟨A1, c1, A2, c2, A3, c3, A4, c4⟩ := p
  have HR := Aside0.mk hR.r2
  have hn : c.off.length ≤ 9223372036854775807 := hR.r2.2.1
  have HX0 := Aside0.mk (blk_new w (.cells (c.cells ⟨A1, c1, A2, c2, A3, c3, A4, c4⟩) 31))
  have HB0 := Aside0.mk (below_alloc (Below.refl w.heap.size w) (.cells (c.cells ⟨A1, c1, A2, c2, A3, c3, A4, c4⟩) 31))
  clear hR
  go_enter Try.func30, Try.ntmps30
  go_wp2_with fail
  go_loopg [6] c.off.length (fun gg s6 wr => ∃ i : Nat, i ≤ c.off.length ∧ c.off.length - i ≤ gg ∧ s6 = .int .i64 (i : Int) ∧ Aside0 (wr.heap[w.heap.size]? = some (.cells (c.cells ⟨A1, c1, A2, c2, A3, c3, A4, c4⟩) 31 (0, 0))) ∧ Aside0 (Below w.heap.size w wr) ∧ Aside0 (∀ j (_ : j < i) (hj : j < c.off.length), (c.off[j].f0 == clock) = false))
  case atStart => exact ⟨0, Nat.zero_le _, by omega, rfl, HX0, HB0, ⟨fun j hj => absurd hj (Nat.not_lt_zero _)⟩⟩
  case round =>
  clear HX0 HB0
  obtain ⟨i, hi, hgi, rfl, HX, HB, AN⟩ := hrel
  have q1 : wr.cell? ⟨w.heap.size, 2, none⟩ = some (.slice A2 c.off.length c2) := (blk_cell HX.out 2).trans rfl
  by_cases hlt : i < c.off.length
  · obtain ⟨ad, e, h0, h1⟩ := at_T91 HR.out (i : Int) (by omega) (by omega)
    subst e
    have hrd : rd_T91 c.off (i : Int) = c.off[i] := by unfold rd_T91; simp [List.getD_eq_getElem?_getD, hlt]
    rw [hrd] at h0 h1
    simp only [Int.toNat_natCast] at h0 h1
    replace h0 := (HB.out.cell (World.block_lt_of_cell? w _ h0)).trans h0
    replace h1 := (HB.out.cell (World.block_lt_of_cell? w _ h1)).trans h1
    have hltz : (i : Int) < (c.off.length : Int) := by omega
    by_cases hq : c.off[i].f0 = clock
    · have hq2 : (c.off[i].f0 == clock) = true := by simp [hq]
      have hq3 := eq_true hq
      have e : offIdx c.off clock = (i : Int) := idxBy_hit (fun x : S91 => x.f0 == clock) c.off i hlt hq2 (fun j hj => AN.out j hj (by omega))
      have ho : offOf c.off clock = (c.off[i].f1, true) := by
        unfold offOf
        rw [e, if_neg (by omega), hrd]
      generalize c.off[i] = y at h0 h1 hq hq2 hq3 ho
      have HOF := Aside0.mk ho
      clear ho e hrd hq
      go_wp2_with fail
      go_returns
      exact ⟨by rw [HOF.out]; rfl, HB.out⟩
    · have hq2 : (c.off[i].f0 == clock) = false := by simpa using hq
      have AN' : Aside0 (∀ j (_ : j < i + 1) (hj : j < c.off.length), (c.off[j].f0 == clock) = false) := ⟨fun j hj hjl => by
        by_cases hjk : j < i
        · exact AN.out j hjk hjl
        · obtain rfl : j = i := by omega
          exact hq2⟩
      have hq3 := eq_false hq
      generalize c.off[i] = y at h0 h1 hq hq2 hq3
      clear hrd hq
      go_wp2_with fail
      go_roundg (c.off.length - (i + 1))
      case rel => exact ⟨i + 1, by omega, Nat.le_refl _, by first | rfl | go_num, HX, HB, AN'⟩
      case measure => omega
  · obtain rfl : i = c.off.length := by omega
    have e : offIdx c.off clock = -1 := idxBy_none (fun x : S91 => x.f0 == clock) c.off (fun j hj => AN.out j hj hj)
    have ho : offOf c.off clock = (0, false) := by
      unfold offOf
      rw [e, if_pos (by omega)]
    have HOF := Aside0.mk ho
    clear ho e
    go_wp2_with fail
    go_returns
    exact ⟨by rw [HOF.out]; rfl, HB.out⟩
def trT.T10 : Bool × List (List Nat × List Nat) := (true, [([], []), ([], []), ([1], [1]), ([2], [2]), ([3], [3]), ([], []), ([5], [5]), ([6], [6]), ([7], [7]), ([4, 8], [4, 8]), ([9], [9]), ([0, 10], [0, 10]), ([11, 11, 0, 1, 2, 3, 4, 5, 6, 7, 8, 9, 10, 11], [0, 11])])
def trT.B10 : List Nat := [0, 0, 2, 6, 14, 0, 32, 96, 224, 510, 1022, 2047, 4095]
theorem trT.tab10 : rtab .any (opsOf Try.f22 10) = trT.T10 := by kernel_rfl
theorem trT.bits10 : waitsOk trT.T10.2 trT.B10 = true := by kernel_rfl
set_option maxHeartbeats 8000000 in
set_option maxRecDepth 100000 in
theorem mtruth_calls (c : Cfg) (p : CfgAt) (w : World) (hR : CfgR w p c) (hSys : Sys c) (h0 : 0 ≤ c.sfrom) (h1 : c.sto ≤ 100) (hp : c.per ≤ 10) :
    Calls Try.prog 22 #[c.val p] w fun e w' => ∃ v, e = .returned v ∧ TsOut w.heap.size w' (tracesI c id) v ∧ Below w.heap.size w w' := by
  obtain ⟨A1, c1, A2, c2, A3, c3, A4, c4⟩ := p
  have HR := Aside0.mk hR
  have HSY := Aside0.mk hSys
  have HX0 := Aside0.mk (blk_new w (.cells (c.cells ⟨A1, c1, A2, c2, A3, c3, A4, c4⟩) 31))
  have HB0 := Aside0.mk (below_alloc (Below.refl w.heap.size w) (.cells (c.cells ⟨A1, c1, A2, c2, A3, c3, A4, c4⟩) 31))
  clear hR hSys
  obtain ⟨N, hN⟩ : ∃ N, N = (c.sto - c.sfrom).toNat := ⟨_, rfl⟩
  obtain ⟨M, hM⟩ : ∃ M, M = c.per.toNat := ⟨_, rfl⟩
  go_enter Try.func22, Try.ntmps22
  go_wp2_with fail
  go_loopg [3, 4] N (fun gg s3 s4 wr => ∃ (i : Nat) (xs : List (Tr × Value)) (cp : Nat) (A : Option Addr), s3 = .slice A xs.length cp ∧ s4 = .int .i64 (c.sfrom + i) ∧ i ≤ N ∧ N - i ≤ gg ∧ Aside0 (xs.map (·.1) = (List.range i).flatMap fun (i : Nat) => slotTr c id (c.sfrom + i)) ∧ Aside0 (xs.length = i * M) ∧ Aside0 (wr.ownsRow w.heap.size 51 3 (.slice A xs.length cp) xs.length (trc xs)) ∧ Aside0 (TsR wr w.heap.size xs) ∧ Aside0 (Below w.heap.size w wr) ∧ Aside0 (wr.heap[w.heap.size]? = some (.cells (c.cells ⟨A1, c1, A2, c2, A3, c3, A4, c4⟩) 31 (0, 0))))
  case atStart => exact ⟨0, [], 0, none, by rfl, by first | rfl | go_num, by omega, by omega, ⟨rfl⟩, ⟨by simp⟩, ⟨rfl, .inl ⟨rfl, rfl⟩⟩, ⟨fun _ h => by cases h⟩, HB0, HX0⟩
  case round =>
    clear HB0 HX0
    obtain ⟨i, xs, cp, A, rfl, rfl, hi, hgi, HM, HL, HO, HT, HB, HX⟩ := hrel
    have q6 : wr.cell? ⟨w.heap.size, 6, none⟩ = some (.int .i64 c.sto) := (blk_cell HX.out 6).trans rfl
    by_cases hlt : i < N
    · have g0 : decide (c.sfrom + (i : Int) < c.sto) = true := by simp; omega
      have g1 : c.sfrom + (i : Int) < c.sto := by omega
      have s1 : IntKind.i64.wrap (c.sfrom + (i : Int) + 1) = c.sfrom + (i : Int) + 1 := IntWalk.i64_in _ (by omega)
      have hbs := Aside0.mk (Below.refl w.heap.size w)
      go_wp2_with fail
      clear q6 g0 hbs
      go_loopg [3, 5] M (fun gg s3 s5 wr => ∃ (k : Nat) (xs : List (Tr × Value)) (cp : Nat) (A : Option Addr), s3 = .slice A xs.length cp ∧ s5 = .int .i64 (k : Int) ∧ k ≤ M ∧ M - k ≤ gg ∧ Aside0 (xs.map (·.1) = ((List.range i).flatMap fun (i : Nat) => slotTr c id (c.sfrom + i)) ++ (List.range k).map fun (k : Nat) => (⟨traceId (c.sfrom + i) k, (traceI c (c.sfrom + i) k).map id⟩ : Tr)) ∧ Aside0 (xs.length = i * M + k) ∧ Aside0 (wr.ownsRow w.heap.size 51 3 (.slice A xs.length cp) xs.length (trc xs)) ∧ Aside0 (TsR wr w.heap.size xs) ∧ Aside0 (Below w.heap.size w wr) ∧ Aside0 (wr.heap[w.heap.size]? = some (.cells (c.cells ⟨A1, c1, A2, c2, A3, c3, A4, c4⟩) 31 (0, 0))))
      case atStart => exact ⟨0, xs, cp, A, by rfl, by rfl, by omega, by omega, ⟨by rw [HM.out]; simp⟩, ⟨by rw [HL.out]; rfl⟩, HO, HT, HB, HX⟩
      case round =>
        clear HM HL HO HT HB HX
        obtain ⟨k, xs, cp, A, rfl, rfl, hk, hgk, HM, HL, HO, HT, HB, HX⟩ := hrel
        have q7 : wr.cell? ⟨w.heap.size, 7, none⟩ = some (.int .i64 c.per) := (blk_cell HX.out 7).trans rfl
        by_cases hkt : k < M
        · have g2 : decide ((k : Int) < c.per) = true := by simp; omega
          have g3 : (k : Int) < c.per := by omega
          have s2 : IntKind.i64.wrap ((k : Int) + 1) = (k : Int) + 1 := IntWalk.i64_in _ (by omega)
          have s3 : IntKind.i64.wrap ((c.sfrom + (i : Int)) * 1048576) = (c.sfrom + (i : Int)) * 1048576 := IntWalk.i64_in _ (by omega)
          have s4 : IntKind.i64.wrap ((c.sfrom + (i : Int)) * 1048576 + 1) = (c.sfrom + (i : Int)) * 1048576 + 1 := IntWalk.i64_in _ (by omega)
          have s5 : IntKind.i64.wrap ((c.sfrom + (i : Int)) * 1048576 + 1 + (k : Int)) = traceId (c.sfrom + i) k := IntWalk.i64_in _ (by omega)
          have s6 : IntKind.i64.wrap (1000 * (c.sfrom + (i : Int))) = 1000 * (c.sfrom + (i : Int)) := IntWalk.i64_in _ (by omega)
          have s7 : IntKind.i64.wrap (7 * (k : Int)) = 7 * (k : Int) := IntWalk.i64_in _ (by omega)
          have s8 : IntKind.i64.wrap (1000 * (c.sfrom + (i : Int)) + 7 * (k : Int)) = 1000 * (c.sfrom + (i : Int)) + 7 * (k : Int) := IntWalk.i64_in _ (by omega)
          have m0 : wr.cell? ⟨w.heap.size, 0, none⟩ = some (.int .i64 c.seed) := (blk_cell HX.out 0).trans rfl
          have m1 : wr.cell? ⟨w.heap.size, 1, none⟩ = some (.slice A1 c.sv.length c1) := (blk_cell HX.out 1).trans rfl
          have m2 : wr.cell? ⟨w.heap.size, 2, none⟩ = some (.slice A2 c.off.length c2) := (blk_cell HX.out 2).trans rfl
          have m3 : wr.cell? ⟨w.heap.size, 3, none⟩ = some (.slice A3 c.ch.length c3) := (blk_cell HX.out 3).trans rfl
          have m4 : wr.cell? ⟨w.heap.size, 4, none⟩ = some (.slice A4 c.fl.length c4) := (blk_cell HX.out 4).trans rfl
          have m5 : wr.cell? ⟨w.heap.size, 5, none⟩ = some (.int .i64 c.sfrom) := (blk_cell HX.out 5).trans rfl
          have m6 : wr.cell? ⟨w.heap.size, 6, none⟩ = some (.int .i64 c.sto) := (blk_cell HX.out 6).trans rfl
          have m7 : wr.cell? ⟨w.heap.size, 7, none⟩ = some (.int .i64 c.per) := (blk_cell HX.out 7).trans rfl
          have m8 : wr.cell? ⟨w.heap.size, 8, none⟩ = some (.int .i64 c.delay) := (blk_cell HX.out 8).trans rfl
          have m9 : wr.cell? ⟨w.heap.size, 9, none⟩ = some (.int .i64 c.chunk) := (blk_cell HX.out 9).trans rfl
          have m10 : wr.cell? ⟨w.heap.size, 10, none⟩ = some (.int .i64 c.loss) := (blk_cell HX.out 10).trans rfl
          have m11 : wr.cell? ⟨w.heap.size, 11, none⟩ = some (.int .i64 c.rep) := (blk_cell HX.out 11).trans rfl
          have n1 : w.heap.size ≠ wr.heap.size := by have := blk_lt HX.out; omega
          go_wp2_with fail
          have hblk := blk_new wr (.cells (mkCells c ⟨A1, c1, A2, c2, A3, c3, A4, c4⟩ (traceId (c.sfrom + i) k) (.slice none 0 0)) 110)
          have hbel : Below wr.heap.size wr (wr.alloc (.cells (mkCells c ⟨A1, c1, A2, c2, A3, c3, A4, c4⟩ (traceId (c.sfrom + i) k) (.slice none 0 0)) 110)) := below_alloc (Below.refl _ _) _
          have hat : MkAt (wr.alloc (.cells (mkCells c ⟨A1, c1, A2, c2, A3, c3, A4, c4⟩ (traceId (c.sfrom + i) k) (.slice none 0 0)) 110)) wr.heap.size wr.heap.size c ⟨A1, c1, A2, c2, A3, c3, A4, c4⟩ (traceId (c.sfrom + i) k) [] (.slice none 0 0) := ⟨hblk, rfl, .inl ⟨rfl, rfl⟩⟩
          obtain ⟨r1, r2, hcall⟩ := mtrace_calls wr wr.heap.size c ⟨A1, c1, A2, c2, A3, c3, A4, c4⟩ (c.sfrom + i) k (by omega) (by omega) (by omega) (by omega) (HR.out.below HB.out) HSY.out (Nat.le_refl _) _ _ hat hbel
          refine hcall.mono ?_
          rintro e w5 ⟨rfl, v5, hm5, hk5, hb5⟩
          obtain ⟨A7, c7, rfl⟩ := own_slice hm5.own
          have m12 : w5.cell? ⟨wr.heap.size, 12, none⟩ = some (.int .i64 (traceId (c.sfrom + i) k)) := (blk_cell hm5.blk 12).trans rfl
          have m13 : w5.cell? ⟨wr.heap.size, 13, none⟩ = some (.slice A7 (traceI c (c.sfrom + i) k).length c7) := (blk_cell hm5.blk 13).trans rfl
          have HV7 := Aside0.mk (own_base hm5.own HB.out.size)
          have HO7 := Aside0.mk (pw_own_below HO.out hb5)
          have HT7 := Aside0.mk (HT.out.below hb5)
          have HX7 := Aside0.mk (blk_below HX.out hb5)
          have HB7 := Aside0.mk (below_step HB.out hb5)
          have hxl : xs.length ≤ 1100 := by
            have h2 : i * M ≤ 100 * M := Nat.mul_le_mul_right M (by omega)
            have h3 := HL.out
            omega
          clear hblk hbel hat hcall hm5 hk5 hb5 HO HT HX HB m0 m1 m2 m3 m4 m5 m6 m7 m8 m9 m10 m11 s3 s4 s5 s6 s7 s8 q7 n1
          go_upto_region 10 with fail
          refine start_ (n := 13) (S := fun w' => Below w5.heap.size w5 w') (ds := [11]) (bz 13 0) (by kernel_rfl) rfl rfl (Below.refl _ _).drew (fun hHeld => ?_)
          refine with_tabW trT.tab10 trT.bits10 (fun HT_ HW_ => ?_)
          generalize w5.drew = wd at hHeld ⊢
          refine pu_ 0 (some 38) (bz 13 1) HT_ rfl rfl ?_
          refine pu_ 1 (some 39) (bz 13 3) HT_ rfl rfl ?_
          refine pu_ 2 (some 40) (bz 13 7) HT_ rfl rfl ?_
          refine pu_ 3 (some 41) (bz 13 15) HT_ rfl rfl ?_
          refine tk_ 4 (some 42) (bz 13 31) HT_ HW_ rfl rfl hHeld ?_ (by intro w' hS; replace m12 := below_at hS m12; go_simp; with_reducible rfl)
          refine pu_ 5 (some 43) (bz 13 63) HT_ rfl rfl ?_
          refine pu_ 6 (some 44) (bz 13 127) HT_ rfl rfl ?_
          refine pu_ 7 (some 45) (bz 13 255) HT_ rfl rfl ?_
          refine tk_ 8 (some 46) (bz 13 511) HT_ HW_ rfl rfl hHeld ?_ (by intro w' hS; replace m13 := below_at hS m13; go_simp; with_reducible rfl)
          refine pu_ 9 (some 47) (bz 13 1023) HT_ rfl rfl ?_
          refine one_ (i := 10) (N := some 48) (bz 13 2047) rfl rfl (one_of HT_.out (by kernel_rfl)) (by decide) (fun K hK => ?_)
          refine event_step (w1 := World.alloc wd (.cells #[.int .i64 (traceId (c.sfrom + i) k), .int .i64 1, .slice A7 (traceI c (c.sfrom + i) k).length c7] 51)) (v := .slice (some ⟨wd.heap.size, 0, none⟩) 1 1) (by rfl) (by go_simp) ?_
          have hHeld0 := hHeld
          refine hK.out _ _ (below_alloc hHeld _) (fun _ => ?_)
          clear hHeld
          have hHeld := hHeld0
          clear hHeld0
          clear hK K
          refine norm_ (a' := ?_) ?_ ?_
          rotate_left
          · show Act.put _ (some 48) _ = _
            simp only [Act.put, List.setIfInBounds_toArray, List.set_cons_zero, List.set_cons_succ, i64_w, i32_w]
            rfl
          have HO8 := Aside0.mk (pw_own_below HO7.out hHeld)
          have HT8 := Aside0.mk (HT7.out.below hHeld)
          have HV8 := Aside0.mk (pw_own_below HV7.out hHeld)
          have HX8 := Aside0.mk (blk_below HX7.out hHeld)
          have HB8 := Aside0.mk (below_step HB7.out hHeld)
          refine last_ (i := 11) (N := some 49) (bz 13 4095) rfl rfl (one_of HT_.out (by kernel_rfl)) (by decide) (fun K hK => ?_)
          refine step_append_cells (w0 := w) w.heap.size (by rfl) (.tmp 38) (.tmp 48) 43 51 _ 3 40 rfl Try.underlying43 info51 rfl (by decide) (by decide) (.slice A xs.length cp) xs.length (trc xs) [.int .i64 (traceId (c.sfrom + i) k), .int .i64 1, .slice A7 (traceI c (c.sfrom + i) k).length c7] (by rfl) (by rfl) rfl ?c1 HO8.out HB8.out HB8.out.size ?c3 ?_; (case c1 => intro u hu; simp at hu; rcases hu with rfl | rfl | rfl <;> rfl); (case c3 => first | omega | (simp; omega))
          intro v9 w9 hown1 hb1 hg1 hat1
          obtain ⟨A9, c9, rfl⟩ := own_slice hown1
          have HW := Aside0.mk hown1
          have HG := Aside0.mk hg1
          have HB9 := Aside0.mk hb1
          clear hown1 hb1 hg1 hat1
          refine hK.out _ _ ?_
          clear hK K
          refine norm_ (a' := ?_) ?_ ?_
          rotate_left
          · show Act.put _ (some 49) _ = _
            simp only [Act.put, List.setIfInBounds_toArray, List.set_cons_zero, List.set_cons_succ, i64_w, i32_w]
            rfl
          refine pu_ 12 (some 3) (bz 13 8191) HT_ rfl rfl ?_
          refine done_ (done_of HT_.out (by kernel_rfl)) ?_
          have hkeep : ∀ (b : Nat) (cur : Array Value) (ty : TypeId), ty ≠ 51 → wd.heap[b]? = some (Obj.cells cur ty (0, 0)) → w9.heap[b]? = wd.heap[b]? := fun b cur ty hty hb => HG.out.block b (blk_lt hb) (fun e => by
            obtain ⟨cells, hc⟩ := own_typed HO8.out b e.symm
            rw [hb] at hc
            injection hc with hc
            injection hc with _ h2
            exact hty h2)
          have HT9 : Aside0 (TsR w9 w.heap.size (xs ++ [((⟨traceId (c.sfrom + i) k, (traceI c (c.sfrom + i) k).map id⟩ : Tr), .slice A7 (traceI c (c.sfrom + i) k).length c7)])) := ⟨fun x hx => by
            rcases List.mem_append.mp hx with hx | hx
            · exact own_keep (HT8.out x hx) (fun b cur hb => hkeep b cur 56 (by decide) hb)
            · obtain rfl := List.mem_singleton.mp hx
              have h9 := own_keep HV8.out (fun b cur hb => hkeep b cur 56 (by decide) hb)
              simpa using h9⟩
          have HX9 := Aside0.mk ((hkeep _ _ 31 (by decide) HX8.out).trans HX8.out)
          have HO9 : Aside0 (w9.ownsRow w.heap.size 51 3 (.slice A9 (xs ++ [((⟨traceId (c.sfrom + i) k, (traceI c (c.sfrom + i) k).map id⟩ : Tr), Value.slice A7 (traceI c (c.sfrom + i) k).length c7)]).length c9) (xs ++ [((⟨traceId (c.sfrom + i) k, (traceI c (c.sfrom + i) k).map id⟩ : Tr), Value.slice A7 (traceI c (c.sfrom + i) k).length c7)]).length (trc (xs ++ [((⟨traceId (c.sfrom + i) k, (traceI c (c.sfrom + i) k).map id⟩ : Tr), Value.slice A7 (traceI c (c.sfrom + i) k).length c7)]))) := ⟨by
            rw [trc_snoc, List.length_append]
            exact HW.out⟩
          have HM9 : Aside0 ((xs ++ [((⟨traceId (c.sfrom + i) k, (traceI c (c.sfrom + i) k).map id⟩ : Tr), Value.slice A7 (traceI c (c.sfrom + i) k).length c7)]).map (·.1) = ((List.range i).flatMap fun (i : Nat) => slotTr c id (c.sfrom + i)) ++ (List.range (k + 1)).map fun (k : Nat) => (⟨traceId (c.sfrom + i) k, (traceI c (c.sfrom + i) k).map id⟩ : Tr)) := ⟨by
            rw [List.map_append, HM.out, List.range_succ, List.map_append, List.append_assoc]
            rfl⟩
          have HL9 : Aside0 ((xs ++ [((⟨traceId (c.sfrom + i) k, (traceI c (c.sfrom + i) k).map id⟩ : Tr), Value.slice A7 (traceI c (c.sfrom + i) k).length c7)]).length = i * M + (k + 1)) := ⟨by
            rw [List.length_append, HL.out]
            rfl⟩
          clear HO8 HT8 HV8 HX8 HB8 HW HG HM HL hkeep hHeld HO7 HT7 HV7 HX7 HB7 m12 m13
          go_wp2_with fail
          go_roundg (M - (k + 1))
          case measure => omega
          case rel => exact ⟨k + 1, _, c9, A9, by rw [List.length_append]; rfl, by first | rfl | go_num, by omega, Nat.le_refl _, HM9, HL9, HO9, HT9, HB9, HX9⟩
        · obtain rfl : k = M := by omega
          have g2 : decide ((k : Int) < c.per) = false := by simp; omega
          have g3 : ¬ (k : Int) < c.per := by omega
          have HM9 : Aside0 (xs.map (·.1) = (List.range (i + 1)).flatMap fun (i : Nat) => slotTr c id (c.sfrom + i)) := ⟨by
            rw [HM.out, List.range_succ, List.flatMap_append, hM]
            simp [slotTr]⟩
          have HL9 : Aside0 (xs.length = (i + 1) * k) := ⟨by rw [HL.out, Nat.succ_mul]⟩
          clear HM HL
          go_wp2_with fail
          go_roundg (N - (i + 1))
          case measure => omega
          case rel => exact ⟨i + 1, xs, cp, A, by rfl, by first | rfl | (congr 1; omega) | (congr 2; omega), by omega, Nat.le_refl _, HM9, HL9, HO, HT, HB, HX⟩
    · obtain rfl : i = N := by omega
      have g0 : decide (c.sfrom + (i : Int) < c.sto) = false := by simp; omega
      have g1 : ¬ c.sfrom + (i : Int) < c.sto := by omega
      have HM9 : Aside0 (xs.map (·.1) = tracesI c id) := ⟨by rw [HM.out, hN]; rfl⟩
      clear HM
      go_wp2_with fail
      go_returns
      exact ⟨_, by rfl, ⟨xs, HM9.out, HO.out, HT.out⟩, HB.out⟩
end Go.Proofs.Ytdadnapfecmmdaa.P
