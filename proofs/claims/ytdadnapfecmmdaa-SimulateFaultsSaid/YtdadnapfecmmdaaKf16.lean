/- Own texts of a proof about layer 55's simulate (merged): Fr. -/
import Derived.Test.YtdadnapfecmmdaaKf13
import Derived.Test.YtdadnapfecmmdaaKf14
import Derived.Test.YtdadnapfecmmdaaKf15
import Derived.Test.YtdadnapfecmmdaaKf5
import Derived.Deep.DeepMust
import Derived.Deep.Slices
namespace Go.Proofs.Ytdadnapfecmmdaa.P
set_option linter.unusedVariables false
set_option linter.unusedSimpArgs false
open Go.RowKit Go.Proofs.YtdadnapfecmmdaaW.PrintWords Go.Proofs.YtdadnapfecmmdaaW.PrintLast Go.Proofs.YtdadnapfecmmdaaW.PrintMore
open Go.Proofs.Ytdadnapfecmmdaa.Hm
theorem own_apart {v v' : Value} {W : World} (hlt : ∀ k, v.ownBlock = some k → k < W.heap.size) (ho : ∃ b, v'.ownBlock = some b ∧ W.heap.size ≤ b) (h : v.ownBlock = v'.ownBlock) : False := by
  obtain ⟨b, h1, h2⟩ := ho
  have := hlt b (h.trans h1)
  omega
theorem own_apart2 {v v1 v2 : Value} {W : World} {k : Nat} (hlt : ∀ k, v.ownBlock = some k → k < W.heap.size) (ho : v2.ownBlock = v1.ownBlock ∨ ∃ b, v2.ownBlock = some b ∧ W.heap.size ≤ b) (hn : some k ≠ v1.ownBlock) (hk : some k = v.ownBlock) (hk2 : some k = v2.ownBlock) : False := by
  rcases ho with h | ⟨b, h1, h2⟩
  · exact hn (hk2.trans h)
  · have := hlt k hk.symm
    have e := hk2.trans h1
    injection e with e
    omega
theorem k59_KM {w : World} {base : Nat} {ok : Nat → Prop} {x : S59} {cs : List Value} (h : k59.K w x cs) : k59.M w base ok x cs := by
  obtain rfl := k59_open h
  exact k59_mkM w base ok x
theorem CfgO.step {b : Nat} {w w1 : World} {p : CfgAt} {c : Cfg} (h : CfgO b w p c) (hk : ∀ k, b ≤ k → k < w.heap.size → w1.heap[k]? = w.heap[k]?) (hs : w.heap.size ≤ w1.heap.size) : CfgO b w1 p c :=
  fun W' hW => h W' (fun k h1 h2 => by rw [hW k h1 (Nat.lt_of_lt_of_le h2 hs), hk k h1 h2])
theorem C_takeN {α : Type} {d : Kd α} {w : World} {A : Option Addr} {n : Nat} {xs : List α} (h : d.C w A n xs) (k : Nat) : d.C w A (xs.take k).length (xs.take k) := by
  obtain ⟨h1, h2, h3⟩ := h
  have hl : (xs.take k).length ≤ xs.length := by rw [List.length_take]; omega
  refine ⟨rfl, by omega, fun h0 => ?_⟩
  obtain ⟨ad, e, hc⟩ := h3 (by omega)
  refine ⟨ad, e, fun j p hj => hc j p ?_⟩
  rw [List.getElem?_take] at hj
  split at hj
  · exact hj
  · cases hj
theorem C_oneAt {α : Type} {d : Kd α} {w : World} {ad : Addr} {n : Nat} {xs : List α} (h : d.C w (some ad) n xs) (i : Nat) (hi : i < xs.length) : d.C w (some (ad.add (i * d.sz))) 1 [xs[i]] := by
  obtain ⟨h1, h2, h3⟩ := h
  refine ⟨rfl, by omega, fun _ => ?_⟩
  obtain ⟨ad', e, hc⟩ := h3 (by omega)
  obtain rfl : ad = ad' := by injection e
  refine ⟨_, rfl, fun j p hj => ?_⟩
  have hj0 : j = 0 := by
    have := (List.getElem?_eq_some_iff.mp hj).1
    simpa using this
  subst hj0
  have e : xs[i] = p := by simpa using hj
  subst e
  obtain ⟨c, g1, g2, g3⟩ := hc i _ (List.getElem?_eq_getElem hi)
  refine ⟨c, g1, g2, fun q u hu => ?_⟩
  rw [Go.Deep.add_add, show i * d.sz + (0 * d.sz + q) = i * d.sz + q from by omega]
  exact g3 q u hu
theorem more_last (c : Cfg) (f : S61) (h : c.fl.length < (c.more f).fl.length) : (c.more f).fl[c.fl.length] = f :=
  Option.some.inj ((List.getElem?_eq_getElem h).symm.trans (by show (c.fl ++ [f])[c.fl.length]? = some f; simp))
def fvT.T21 : Bool × List (List Nat × List Nat) := (true, [([], []), ([0], [0]), ([1], [1]), ([1], [1]), ([2, 3, 1], [1, 2, 3]), ([4, 1], [1, 4]), ([5, 1], [1, 5]), ([1], [1]), ([6, 7, 1], [1, 6, 7]), ([8, 1], [1, 8]), ([9, 1, 1], [1, 9]), ([1], [1]), ([11, 10, 1], [1, 11]), ([1], [1]), ([13, 1], [1, 13]), ([12, 14, 1], [1, 12, 14]), ([10, 15, 1], [1, 10, 15]), ([1, 16], [1, 16])])
def fvT.B21 : List Nat := [0, 1, 3, 3, 15, 31, 63, 3, 255, 511, 1023, 3, 4095, 3, 8195, 32767, 65535, 131071]
theorem fvT.tab21 : rtab .any (opsOf Try.f5 21) = fvT.T21 := by kernel_rfl
theorem fvT.bits21 : waitsOk fvT.T21.2 fvT.B21 = true := by kernel_rfl
def fvT.T23 : Bool × List (List Nat × List Nat) := (true, [([], []), ([0], [0]), ([1], [1]), ([2], [2]), ([2], [2]), ([2], [2]), ([5, 2], [2, 5]), ([3, 4, 6, 2], [2, 3, 4, 6]), ([2], [2]), ([2], [2]), ([2], [2]), ([10, 2], [2, 10]), ([8, 9, 11, 2], [2, 8, 9, 11]), ([7, 12, 2, 2], [2, 7, 12]), ([13, 2], [2, 13]), ([2, 14], [2, 14])])
def fvT.B23 : List Nat := [0, 1, 3, 7, 7, 7, 39, 127, 7, 7, 7, 1031, 3847, 8191, 16383, 32767]
theorem fvT.tab23 : rtab .any (opsOf Try.f5 23) = fvT.T23 := by kernel_rfl
theorem fvT.bits23 : waitsOk fvT.T23.2 fvT.B23 = true := by kernel_rfl
def reg18F : { c : Array Oper // opsIn (Try.f5.body.getD .skip) 18 = some c } := ⟨_, by rfl⟩
set_option maxHeartbeats 8000000 in
set_option maxRecDepth 100000 in
theorem faults_reg18 (l : List Sp) (i k n cA k2 : Nat) (ad : Addr) (A2' : Option Addr) (wr : World) (hi : i < n) (hk : k < l.length) (t2 : wr.cell? ⟨(ad.add (i * 3)).block, (ad.add (i * 3)).off + 2, none⟩ = some (.slice A2' l.length k2)) (HCX : Aside0 (Kd.C k56 wr A2' l.length (l.map toS))) {q0 q1 q2 q3 q4 q5 q6 q8 q9 q10 q11 q12 q14 q15 q17 q18 q19 q20 q21 q22 q23 q24 q25 q26 q27 q28 q29 q30 q31 q32 q33 q34 q35 q36 q37 q38 q39 q40 q41 q42 q43 q44 q45 q46 q47 q48 q49 q50 q51 q52 q53 q54 q55 q56 q57 q58 q59 q60 q61 q62 q63 q64 q65 q66 q67 q68 q69 q70 q71 q72 q73 q74 q75 q76 q77 q78 q79 q80 q81 q82 q83 q84 q85 q86 q87 q88 q89 q90 q91 q92 q93 q94 q95 q96 q97 q98 q99 q100 q101 q102 q103 q104 q105 q106 q107 q108 q109 q110 q111 q112 q113 q114 q115 q116 q117 q118 q119 q120 q121 q122 q123 q124 q125 q126 q127 q128 q129 q130 q131 q132 q133 q134 q135 q136 q137 q138 q139 q140 q141 q142 q143 q144 q145 q146 q147 q148 q149 q150 q151 q152 q153 q154 q155 q156 q157 q158 q159 q160 q161 q162 q163 q164 q165 q166 q167 q168 q169 q170 q171 q172 q173 q174 q175 q176 q177 q178 q179 q180 q181 q182 q183 q184 q185 q186 q187 q188 q189 : Value} (Q : Exit → Go.Act → World → Prop) (hQ : ∀ x (a : Go.Act) N v w, Q (Exit.panic x) (Go.Act.put a N v) w → Q (Exit.panic x) a w) (KK : Go.Act → World → Prop) (HKK : Aside0 (∀ {r17 r112 r113 r114 r115 r116 r117 r118 r119 : Value} {wz : World}, (∃ (gs : Nat) (A12 : Option Addr) (c12 : Nat) (A13 : Option Addr) (c13 : Nat), r17 = .pointer (some ⟨gs, 0, none⟩) ∧ Aside0 (wz.heap[gs]? = some (.cells (sv14 l[k] A12 c12 A13 c13) 56 (0, 0))) ∧ Aside0 (Below wr.heap.size wr wz)) → KK { tmps := List.toArray (q0 :: q1 :: q2 :: q3 :: q4 :: q5 :: q6 :: (.slice (some ad) n cA) :: q8 :: q9 :: q10 :: q11 :: q12 :: (.int .i64 (i : Int)) :: q14 :: q15 :: (.int .i64 (k : Int)) :: (r17) :: q18 :: q19 :: q20 :: q21 :: q22 :: q23 :: q24 :: q25 :: q26 :: q27 :: q28 :: q29 :: q30 :: q31 :: q32 :: q33 :: q34 :: q35 :: q36 :: q37 :: q38 :: q39 :: q40 :: q41 :: q42 :: q43 :: q44 :: q45 :: q46 :: q47 :: q48 :: q49 :: q50 :: q51 :: q52 :: q53 :: q54 :: q55 :: q56 :: q57 :: q58 :: q59 :: q60 :: q61 :: q62 :: q63 :: q64 :: q65 :: q66 :: q67 :: q68 :: q69 :: q70 :: q71 :: q72 :: q73 :: q74 :: q75 :: q76 :: q77 :: q78 :: q79 :: q80 :: q81 :: q82 :: q83 :: q84 :: q85 :: q86 :: q87 :: q88 :: q89 :: q90 :: q91 :: q92 :: q93 :: q94 :: q95 :: q96 :: q97 :: q98 :: q99 :: q100 :: q101 :: q102 :: q103 :: q104 :: q105 :: q106 :: q107 :: q108 :: q109 :: q110 :: q111 :: (r112) :: (r113) :: (r114) :: (r115) :: (r116) :: (r117) :: (r118) :: (r119) :: q120 :: q121 :: q122 :: q123 :: q124 :: q125 :: q126 :: q127 :: q128 :: q129 :: q130 :: q131 :: q132 :: q133 :: q134 :: q135 :: q136 :: q137 :: q138 :: q139 :: q140 :: q141 :: q142 :: q143 :: q144 :: q145 :: q146 :: q147 :: q148 :: q149 :: q150 :: q151 :: q152 :: q153 :: q154 :: q155 :: q156 :: q157 :: q158 :: q159 :: q160 :: q161 :: q162 :: q163 :: q164 :: q165 :: q166 :: q167 :: q168 :: q169 :: q170 :: q171 :: q172 :: q173 :: q174 :: q175 :: q176 :: q177 :: q178 :: q179 :: q180 :: q181 :: q182 :: q183 :: q184 :: q185 :: q186 :: q187 :: q188 :: q189 :: []), defers := [] } wz)) :
    Code.wp Try.prog (Code.region 18 reg18F.1 false) (Exit.then KK Q) { tmps := List.toArray (q0 :: q1 :: q2 :: q3 :: q4 :: q5 :: q6 :: (.slice (some ad) n cA) :: q8 :: q9 :: q10 :: q11 :: q12 :: (.int .i64 (i : Int)) :: q14 :: q15 :: (.int .i64 (k : Int)) :: q17 :: q18 :: q19 :: q20 :: q21 :: q22 :: q23 :: q24 :: q25 :: q26 :: q27 :: q28 :: q29 :: q30 :: q31 :: q32 :: q33 :: q34 :: q35 :: q36 :: q37 :: q38 :: q39 :: q40 :: q41 :: q42 :: q43 :: q44 :: q45 :: q46 :: q47 :: q48 :: q49 :: q50 :: q51 :: q52 :: q53 :: q54 :: q55 :: q56 :: q57 :: q58 :: q59 :: q60 :: q61 :: q62 :: q63 :: q64 :: q65 :: q66 :: q67 :: q68 :: q69 :: q70 :: q71 :: q72 :: q73 :: q74 :: q75 :: q76 :: q77 :: q78 :: q79 :: q80 :: q81 :: q82 :: q83 :: q84 :: q85 :: q86 :: q87 :: q88 :: q89 :: q90 :: q91 :: q92 :: q93 :: q94 :: q95 :: q96 :: q97 :: q98 :: q99 :: q100 :: q101 :: q102 :: q103 :: q104 :: q105 :: q106 :: q107 :: q108 :: q109 :: q110 :: q111 :: q112 :: q113 :: q114 :: q115 :: q116 :: q117 :: q118 :: q119 :: q120 :: q121 :: q122 :: q123 :: q124 :: q125 :: q126 :: q127 :: q128 :: q129 :: q130 :: q131 :: q132 :: q133 :: q134 :: q135 :: q136 :: q137 :: q138 :: q139 :: q140 :: q141 :: q142 :: q143 :: q144 :: q145 :: q146 :: q147 :: q148 :: q149 :: q150 :: q151 :: q152 :: q153 :: q154 :: q155 :: q156 :: q157 :: q158 :: q159 :: q160 :: q161 :: q162 :: q163 :: q164 :: q165 :: q166 :: q167 :: q168 :: q169 :: q170 :: q171 :: q172 :: q173 :: q174 :: q175 :: q176 :: q177 :: q178 :: q179 :: q180 :: q181 :: q182 :: q183 :: q184 :: q185 :: q186 :: q187 :: q188 :: q189 :: []), defers := [] } wr := by
  dsimp only [reg18F]
  obtain ⟨ax, A12, c12, A13, c13, e, s0, s1, s2, s3, s4, s5, s6, s7, s8, s9, s10, s11, s12, s13, -⟩ := at_T56 HCX.out (k : Int) (by omega) (by omega)
  subst e
  rw [rdS_at l k hk] at s0 s1 s2 s3 s4 s5 s6 s7 s8 s9 s10 s11 s12 s13
  simp only [Int.toNat_natCast, toS, List.length_nil] at s0 s1 s2 s3 s4 s5 s6 s7 s8 s9 s10 s11 s12 s13
  have hz1 : (i : Int) < (n : Int) := by omega
  have hz2 : (k : Int) < (l.length : Int) := by omega
  have HSB := Aside0.mk (blk_new wr (.cells (sv14 l[k] A12 c12 A13 c13) 56))
  have HBN : Aside0 (Below wr.heap.size wr (wr.alloc (.cells (sv14 l[k] A12 c12 A13 c13) 56))) := ⟨below_alloc (Below.refl _ _) _⟩
  clear HCX
  go_wp2
  refine HKK.out ?_
  exact ⟨wr.heap.size, A12, c12, A13, c13, rfl, HSB, HBN⟩
def reg19F : { c : Array Oper // opsIn (Try.f5.body.getD .skip) 19 = some c } := ⟨_, by rfl⟩
set_option maxHeartbeats 8000000 in
set_option maxRecDepth 100000 in
theorem faults_reg19 (f : S61) (slot : Int) (s : Sp) (gf gs : Nat) (v7 : World) (s5 : v7.cell? ⟨gs, 5, none⟩ = some (.int .i64 s.kind)) (s6 : v7.cell? ⟨gs, 6, none⟩ = some (.string s.svc)) (s7 : v7.cell? ⟨gs, 7, none⟩ = some (.string s.ver)) (y0 : v7.cell? ⟨gf, 0, none⟩ = some (.string f.f0)) (y1 : v7.cell? ⟨gf, 1, none⟩ = some (.string f.f1)) (y2 : v7.cell? ⟨gf, 2, none⟩ = some (.int .i64 f.f2.f0)) (y3 : v7.cell? ⟨gf, 3, none⟩ = some (.int .i64 f.f2.f1)) {q0 q1 q2 q3 q4 q5 q6 q7 q8 q9 q10 q12 q13 q15 q16 q18 q19 q20 q21 q22 q23 q24 q25 q26 q27 q28 q29 q30 q31 q32 q33 q34 q35 q36 q37 q38 q39 q40 q41 q42 q43 q44 q45 q46 q47 q48 q49 q50 q51 q52 q53 q54 q55 q56 q57 q58 q59 q60 q61 q62 q63 q64 q65 q66 q67 q68 q69 q70 q71 q72 q73 q74 q75 q76 q77 q78 q79 q80 q81 q82 q83 q84 q85 q86 q87 q88 q89 q90 q91 q92 q93 q94 q95 q96 q97 q98 q99 q100 q101 q102 q103 q104 q105 q106 q107 q108 q109 q110 q111 q112 q113 q114 q115 q116 q117 q118 q119 q120 q121 q122 q123 q124 q125 q126 q127 q128 q129 q130 q131 q132 q133 q134 q135 q136 q137 q138 q139 q140 q141 q142 q143 q144 q145 q146 q147 q148 q149 q150 q151 q152 q153 q154 q155 q156 q157 q158 q159 q160 q161 q162 q163 q164 q165 q166 q167 q168 q169 q170 q171 q172 q173 q174 q175 q176 q177 q178 q179 q180 q181 q182 q183 q184 q185 q186 q187 q188 q189 : Value} (Q : Exit → Go.Act → World → Prop) (hQ : ∀ x (a : Go.Act) N v w, Q (Exit.panic x) (Go.Act.put a N v) w → Q (Exit.panic x) a w) (KK : Go.Act → World → Prop) (HKK : Aside0 (∀ {r120 r121 r122 r123 r124 r125 r126 r127 r128 r129 r130 r131 r132 r133 r134 r135 r136 r137 r138 r139 r140 r141 r142 r143 r144 r145 r146 r147 r148 r149 r150 r151 r152 r153 r154 r155 : Value} {wz : World}, (∃ nb : Bool, r155 = .bool nb ∧ Aside0 (nb = true → ¬ ConcS f slot s) ∧ Aside0 (nb = false → ConcS f slot s) ∧ Aside0 (wz = v7)) → KK { tmps := List.toArray (q0 :: q1 :: q2 :: q3 :: q4 :: q5 :: q6 :: q7 :: q8 :: q9 :: q10 :: (.pointer (some ⟨gf, 0, none⟩)) :: q12 :: q13 :: (.int .i64 slot) :: q15 :: q16 :: (.pointer (some ⟨gs, 0, none⟩)) :: q18 :: q19 :: q20 :: q21 :: q22 :: q23 :: q24 :: q25 :: q26 :: q27 :: q28 :: q29 :: q30 :: q31 :: q32 :: q33 :: q34 :: q35 :: q36 :: q37 :: q38 :: q39 :: q40 :: q41 :: q42 :: q43 :: q44 :: q45 :: q46 :: q47 :: q48 :: q49 :: q50 :: q51 :: q52 :: q53 :: q54 :: q55 :: q56 :: q57 :: q58 :: q59 :: q60 :: q61 :: q62 :: q63 :: q64 :: q65 :: q66 :: q67 :: q68 :: q69 :: q70 :: q71 :: q72 :: q73 :: q74 :: q75 :: q76 :: q77 :: q78 :: q79 :: q80 :: q81 :: q82 :: q83 :: q84 :: q85 :: q86 :: q87 :: q88 :: q89 :: q90 :: q91 :: q92 :: q93 :: q94 :: q95 :: q96 :: q97 :: q98 :: q99 :: q100 :: q101 :: q102 :: q103 :: q104 :: q105 :: q106 :: q107 :: q108 :: q109 :: q110 :: q111 :: q112 :: q113 :: q114 :: q115 :: q116 :: q117 :: q118 :: q119 :: (r120) :: (r121) :: (r122) :: (r123) :: (r124) :: (r125) :: (r126) :: (r127) :: (r128) :: (r129) :: (r130) :: (r131) :: (r132) :: (r133) :: (r134) :: (r135) :: (r136) :: (r137) :: (r138) :: (r139) :: (r140) :: (r141) :: (r142) :: (r143) :: (r144) :: (r145) :: (r146) :: (r147) :: (r148) :: (r149) :: (r150) :: (r151) :: (r152) :: (r153) :: (r154) :: (r155) :: q156 :: q157 :: q158 :: q159 :: q160 :: q161 :: q162 :: q163 :: q164 :: q165 :: q166 :: q167 :: q168 :: q169 :: q170 :: q171 :: q172 :: q173 :: q174 :: q175 :: q176 :: q177 :: q178 :: q179 :: q180 :: q181 :: q182 :: q183 :: q184 :: q185 :: q186 :: q187 :: q188 :: q189 :: []), defers := [] } wz)) :
    Code.wp Try.prog (Code.region 19 reg19F.1 false) (Exit.then KK Q) { tmps := List.toArray (q0 :: q1 :: q2 :: q3 :: q4 :: q5 :: q6 :: q7 :: q8 :: q9 :: q10 :: (.pointer (some ⟨gf, 0, none⟩)) :: q12 :: q13 :: (.int .i64 slot) :: q15 :: q16 :: (.pointer (some ⟨gs, 0, none⟩)) :: q18 :: q19 :: q20 :: q21 :: q22 :: q23 :: q24 :: q25 :: q26 :: q27 :: q28 :: q29 :: q30 :: q31 :: q32 :: q33 :: q34 :: q35 :: q36 :: q37 :: q38 :: q39 :: q40 :: q41 :: q42 :: q43 :: q44 :: q45 :: q46 :: q47 :: q48 :: q49 :: q50 :: q51 :: q52 :: q53 :: q54 :: q55 :: q56 :: q57 :: q58 :: q59 :: q60 :: q61 :: q62 :: q63 :: q64 :: q65 :: q66 :: q67 :: q68 :: q69 :: q70 :: q71 :: q72 :: q73 :: q74 :: q75 :: q76 :: q77 :: q78 :: q79 :: q80 :: q81 :: q82 :: q83 :: q84 :: q85 :: q86 :: q87 :: q88 :: q89 :: q90 :: q91 :: q92 :: q93 :: q94 :: q95 :: q96 :: q97 :: q98 :: q99 :: q100 :: q101 :: q102 :: q103 :: q104 :: q105 :: q106 :: q107 :: q108 :: q109 :: q110 :: q111 :: q112 :: q113 :: q114 :: q115 :: q116 :: q117 :: q118 :: q119 :: q120 :: q121 :: q122 :: q123 :: q124 :: q125 :: q126 :: q127 :: q128 :: q129 :: q130 :: q131 :: q132 :: q133 :: q134 :: q135 :: q136 :: q137 :: q138 :: q139 :: q140 :: q141 :: q142 :: q143 :: q144 :: q145 :: q146 :: q147 :: q148 :: q149 :: q150 :: q151 :: q152 :: q153 :: q154 :: q155 :: q156 :: q157 :: q158 :: q159 :: q160 :: q161 :: q162 :: q163 :: q164 :: q165 :: q166 :: q167 :: q168 :: q169 :: q170 :: q171 :: q172 :: q173 :: q174 :: q175 :: q176 :: q177 :: q178 :: q179 :: q180 :: q181 :: q182 :: q183 :: q184 :: q185 :: q186 :: q187 :: q188 :: q189 :: []), defers := [] } v7 := by
  dsimp only [reg19F]
  by_cases g1 : s.kind = 3
  · have j1 : (s.kind == 3) = true := by simp [g1]
    have i1 := eq_true g1
    have l1 : (s.kind != 3) = false := by simp [g1]
    by_cases g2 : f.f0.toList = s.svc.toList
    · have j2 : (s.svc.toList == f.f0.toList) = true := by simp [g2]
      have i2 := eq_true g2.symm
      have l2 : (s.svc.toList != f.f0.toList) = false := by simp [g2]
      by_cases g3 : f.f2.f0 ≤ slot
      · have j3 : decide (slot < f.f2.f0) = false := by simp; omega
        have i3 : (slot < f.f2.f0) = False := eq_false (by omega)
        have l3 := eq_true g3
        by_cases g4 : slot < f.f2.f1
        · have j4 : decide (f.f2.f1 ≤ slot) = false := by simp; omega
          have i4 : (f.f2.f1 ≤ slot) = False := eq_false (by omega)
          have l4 := eq_true g4
          by_cases g5 : f.f1.toList = []
          · have j5 : f.f1.toList.isEmpty = true := by rw [g5]; rfl
            have hcc : Aside0 (ConcS f slot s) := ⟨⟨g1, g2, g3, g4, .inl g5⟩⟩
            clear g1 g2 g3 g4 g5
            go_wp2_with fail
            refine HKK.out ?_
            exact ⟨false, rfl, ⟨fun h => by cases h⟩, ⟨fun _ => hcc.out⟩, ⟨rfl⟩⟩
          · have j5 : f.f1.toList.isEmpty = false := by simpa using g5
            by_cases g6 : f.f1.toList = s.ver.toList
            · have j6 : (f.f1.toList == s.ver.toList) = true := by simp [g6]
              have i6 := eq_true g6
              have l6 : (f.f1.toList != s.ver.toList) = false := by simp [g6]
              have hcc : Aside0 (ConcS f slot s) := ⟨⟨g1, g2, g3, g4, .inr g6⟩⟩
              clear g1 g2 g3 g4 g5 g6
              go_wp2_with fail
              refine HKK.out ?_
              exact ⟨false, rfl, ⟨fun h => by cases h⟩, ⟨fun _ => hcc.out⟩, ⟨rfl⟩⟩
            · have j6 : (f.f1.toList == s.ver.toList) = false := by simpa using g6
              have i6 := eq_false g6
              have l6 : (f.f1.toList != s.ver.toList) = true := by simpa using g6
              have hcc : Aside0 (¬ ConcS f slot s) := ⟨fun h => by rcases h.2.2.2.2 with h | h; exact g5 h; exact g6 h⟩
              clear g1 g2 g3 g4 g5 g6
              go_wp2_with fail
              refine HKK.out ?_
              exact ⟨true, rfl, ⟨fun _ => hcc.out⟩, ⟨fun h => by cases h⟩, ⟨rfl⟩⟩
        · have j4 : decide (f.f2.f1 ≤ slot) = true := by simp; omega
          have i4 : (f.f2.f1 ≤ slot) = True := eq_true (by omega)
          have l4 := eq_false g4
          have hcc : Aside0 (¬ ConcS f slot s) := ⟨fun h => g4 h.2.2.2.1⟩
          clear g1 g2 g3 g4
          go_wp2_with fail
          refine HKK.out ?_
          exact ⟨true, rfl, ⟨fun _ => hcc.out⟩, ⟨fun h => by cases h⟩, ⟨rfl⟩⟩
      · have j3 : decide (slot < f.f2.f0) = true := by simp; omega
        have i3 : (slot < f.f2.f0) = True := eq_true (by omega)
        have l3 := eq_false g3
        have hcc : Aside0 (¬ ConcS f slot s) := ⟨fun h => g3 h.2.2.1⟩
        clear g1 g2 g3
        go_wp2_with fail
        refine HKK.out ?_
        exact ⟨true, rfl, ⟨fun _ => hcc.out⟩, ⟨fun h => by cases h⟩, ⟨rfl⟩⟩
    · have j2 : (s.svc.toList == f.f0.toList) = false := by
        have : ¬ s.svc.toList = f.f0.toList := fun h => g2 h.symm
        simpa using this
      have i2 : (s.svc.toList = f.f0.toList) = False := eq_false (fun h => g2 h.symm)
      have l2 : (s.svc.toList != f.f0.toList) = true := by rw [bne, j2]; rfl
      have hcc : Aside0 (¬ ConcS f slot s) := ⟨fun h => g2 h.2.1⟩
      clear g1 g2
      go_wp2_with fail
      refine HKK.out ?_
      exact ⟨true, rfl, ⟨fun _ => hcc.out⟩, ⟨fun h => by cases h⟩, ⟨rfl⟩⟩
  · have j1 : (s.kind == 3) = false := by simpa using g1
    have i1 := eq_false g1
    have l1 : (s.kind != 3) = true := by simpa using g1
    have hcc : Aside0 (¬ ConcS f slot s) := ⟨fun h => g1 h.1⟩
    clear g1
    go_wp2_with fail
    refine HKK.out ?_
    exact ⟨true, rfl, ⟨fun _ => hcc.out⟩, ⟨fun h => by cases h⟩, ⟨rfl⟩⟩
def reg21F : { c : Array Oper // opsIn (Try.f5.body.getD .skip) 21 = some c } := ⟨_, by rfl⟩
set_option maxHeartbeats 8000000 in
set_option maxRecDepth 100000 in
theorem faults_reg21 (f : S61) (s : Sp) (l : List Sp) (lb : Bool) (i k n m cB m2 gf gs : Nat) (ae : Addr) (B2' : Option Addr) (A12 : Option Addr) (c12 : Nat) (A13 : Option Addr) (c13 : Nat) (wc : World) (hi : i < n) (hm : l.length = m) (hk : k < l.length) (u2 : wc.cell? ⟨(ae.add (i * 3)).block, (ae.add (i * 3)).off + 2, none⟩ = some (.slice B2' m m2)) (HCY : Aside0 (Kd.C k56 wc B2' m (l.map toS))) (HSB : Aside0 (wc.heap[gs]? = some (.cells (sv14 s A12 c12 A13 c13) 56 (0, 0)))) (HFB : Aside0 (wc.heap[gf]? = some (.cells #[.string f.f0, .string f.f1, .int .i64 f.f2.f0, .int .i64 f.f2.f1, .int .i64 f.f3, .int .i64 f.f4] 61 (0, 0)))) (KD : Aside0 (lb = true → wrap64 (wrap64 (s.en - s.st) + f.f3) = wrap64 (l[k].en - l[k].st))) {q0 q1 q2 q3 q4 q5 q6 q7 q8 q10 q14 q15 q18 q19 q20 q21 q22 q23 q24 q25 q26 q27 q28 q29 q30 q31 q32 q33 q34 q35 q36 q37 q38 q39 q40 q41 q42 q43 q44 q45 q46 q47 q48 q49 q50 q51 q52 q53 q54 q55 q56 q57 q58 q59 q60 q61 q62 q63 q64 q65 q66 q67 q68 q69 q70 q71 q72 q73 q74 q75 q76 q77 q78 q79 q80 q81 q82 q83 q84 q85 q86 q87 q88 q89 q90 q91 q92 q93 q94 q95 q96 q97 q98 q99 q100 q101 q102 q103 q104 q105 q106 q107 q108 q109 q110 q111 q112 q113 q114 q115 q116 q117 q118 q119 q120 q121 q122 q123 q124 q125 q126 q127 q128 q129 q130 q131 q132 q133 q134 q135 q136 q137 q138 q139 q140 q141 q142 q143 q144 q145 q146 q147 q148 q149 q150 q151 q152 q153 q154 q155 q156 q157 q158 q159 q160 q161 q162 q163 q164 q165 q166 q167 q168 q169 q170 q171 q172 q173 q174 q175 q176 q177 q178 q179 q180 q181 q182 q183 q184 q185 q186 q187 q188 q189 : Value} (Q : Exit → Go.Act → World → Prop) (hQ : ∀ x (a : Go.Act) N v w, Q (Exit.panic x) (Go.Act.put a N v) w → Q (Exit.panic x) a w) (KK : Go.Act → World → Prop) (HKK : Aside0 (∀ {r156 r157 r158 r159 r160 r161 r162 r163 r164 r165 r166 r167 r168 r169 r170 r171 r172 r173 : Value} {wz : World}, (r173 = .bool false ∧ Aside0 (Below wc.heap.size wc wz)) → KK { tmps := List.toArray (q0 :: q1 :: q2 :: q3 :: q4 :: q5 :: q6 :: q7 :: q8 :: (.slice (some ae) n cB) :: q10 :: (.pointer (some ⟨gf, 0, none⟩)) :: (.bool lb) :: (.int .i64 (i : Int)) :: q14 :: q15 :: (.int .i64 (k : Int)) :: (.pointer (some ⟨gs, 0, none⟩)) :: q18 :: q19 :: q20 :: q21 :: q22 :: q23 :: q24 :: q25 :: q26 :: q27 :: q28 :: q29 :: q30 :: q31 :: q32 :: q33 :: q34 :: q35 :: q36 :: q37 :: q38 :: q39 :: q40 :: q41 :: q42 :: q43 :: q44 :: q45 :: q46 :: q47 :: q48 :: q49 :: q50 :: q51 :: q52 :: q53 :: q54 :: q55 :: q56 :: q57 :: q58 :: q59 :: q60 :: q61 :: q62 :: q63 :: q64 :: q65 :: q66 :: q67 :: q68 :: q69 :: q70 :: q71 :: q72 :: q73 :: q74 :: q75 :: q76 :: q77 :: q78 :: q79 :: q80 :: q81 :: q82 :: q83 :: q84 :: q85 :: q86 :: q87 :: q88 :: q89 :: q90 :: q91 :: q92 :: q93 :: q94 :: q95 :: q96 :: q97 :: q98 :: q99 :: q100 :: q101 :: q102 :: q103 :: q104 :: q105 :: q106 :: q107 :: q108 :: q109 :: q110 :: q111 :: q112 :: q113 :: q114 :: q115 :: q116 :: q117 :: q118 :: q119 :: q120 :: q121 :: q122 :: q123 :: q124 :: q125 :: q126 :: q127 :: q128 :: q129 :: q130 :: q131 :: q132 :: q133 :: q134 :: q135 :: q136 :: q137 :: q138 :: q139 :: q140 :: q141 :: q142 :: q143 :: q144 :: q145 :: q146 :: q147 :: q148 :: q149 :: q150 :: q151 :: q152 :: q153 :: q154 :: q155 :: (r156) :: (r157) :: (r158) :: (r159) :: (r160) :: (r161) :: (r162) :: (r163) :: (r164) :: (r165) :: (r166) :: (r167) :: (r168) :: (r169) :: (r170) :: (r171) :: (r172) :: (r173) :: q174 :: q175 :: q176 :: q177 :: q178 :: q179 :: q180 :: q181 :: q182 :: q183 :: q184 :: q185 :: q186 :: q187 :: q188 :: q189 :: []), defers := [] } wz)) :
    Code.wp Try.prog (Code.region 21 reg21F.1 true) (Exit.then KK Q) { tmps := List.toArray (q0 :: q1 :: q2 :: q3 :: q4 :: q5 :: q6 :: q7 :: q8 :: (.slice (some ae) n cB) :: q10 :: (.pointer (some ⟨gf, 0, none⟩)) :: (.bool lb) :: (.int .i64 (i : Int)) :: q14 :: q15 :: (.int .i64 (k : Int)) :: (.pointer (some ⟨gs, 0, none⟩)) :: q18 :: q19 :: q20 :: q21 :: q22 :: q23 :: q24 :: q25 :: q26 :: q27 :: q28 :: q29 :: q30 :: q31 :: q32 :: q33 :: q34 :: q35 :: q36 :: q37 :: q38 :: q39 :: q40 :: q41 :: q42 :: q43 :: q44 :: q45 :: q46 :: q47 :: q48 :: q49 :: q50 :: q51 :: q52 :: q53 :: q54 :: q55 :: q56 :: q57 :: q58 :: q59 :: q60 :: q61 :: q62 :: q63 :: q64 :: q65 :: q66 :: q67 :: q68 :: q69 :: q70 :: q71 :: q72 :: q73 :: q74 :: q75 :: q76 :: q77 :: q78 :: q79 :: q80 :: q81 :: q82 :: q83 :: q84 :: q85 :: q86 :: q87 :: q88 :: q89 :: q90 :: q91 :: q92 :: q93 :: q94 :: q95 :: q96 :: q97 :: q98 :: q99 :: q100 :: q101 :: q102 :: q103 :: q104 :: q105 :: q106 :: q107 :: q108 :: q109 :: q110 :: q111 :: q112 :: q113 :: q114 :: q115 :: q116 :: q117 :: q118 :: q119 :: q120 :: q121 :: q122 :: q123 :: q124 :: q125 :: q126 :: q127 :: q128 :: q129 :: q130 :: q131 :: q132 :: q133 :: q134 :: q135 :: q136 :: q137 :: q138 :: q139 :: q140 :: q141 :: q142 :: q143 :: q144 :: q145 :: q146 :: q147 :: q148 :: q149 :: q150 :: q151 :: q152 :: q153 :: q154 :: q155 :: q156 :: q157 :: q158 :: q159 :: q160 :: q161 :: q162 :: q163 :: q164 :: q165 :: q166 :: q167 :: q168 :: q169 :: q170 :: q171 :: q172 :: q173 :: q174 :: q175 :: q176 :: q177 :: q178 :: q179 :: q180 :: q181 :: q182 :: q183 :: q184 :: q185 :: q186 :: q187 :: q188 :: q189 :: []), defers := [] } wc := by
  dsimp only [reg21F]
  cases lb with
  | true =>
    have kd := KD.out rfl
    obtain ⟨ay, B12, e12, B13, e13, e2, t0, t1, t2', t3, t4, t5, t6, t7, t8, t9, t10, t11, t12, t13, -⟩ := at_T56 HCY.out (k : Int) (by omega) (by omega)
    subst e2
    rw [rdS_at l k hk] at t0 t1 t2' t3 t4 t5 t6 t7 t8 t9 t10 t11 t12 t13
    generalize l[k] = t at t0 t1 t2' t3 t4 t5 t6 t7 t8 t9 t10 t11 t12 t13 kd
    simp only [Int.toNat_natCast, toS, List.length_nil] at t0 t1 t2' t3 t4 t5 t6 t7 t8 t9 t10 t11 t12 t13
    have hz1 : (i : Int) < (n : Int) := by omega
    have hz2 : (k : Int) < (m : Int) := by omega
    have y3 : wc.cell? ⟨gf, 4, none⟩ = some (.int .i64 f.f3) := (blk_cell HFB.out 4).trans rfl
    have s0 : wc.cell? ⟨gs, 0, none⟩ = some (.int .i64 s.tr) := (blk_cell HSB.out 0).trans rfl
    have s1 : wc.cell? ⟨gs, 1, none⟩ = some (.int .i64 s.id) := (blk_cell HSB.out 1).trans rfl
    have s2 : wc.cell? ⟨gs, 2, none⟩ = some (.int .i64 s.par) := (blk_cell HSB.out 2).trans rfl
    have s3 : wc.cell? ⟨gs, 3, none⟩ = some (.int .i64 s.rev) := (blk_cell HSB.out 3).trans rfl
    have s4 : wc.cell? ⟨gs, 4, none⟩ = some (.int .i64 s.clk) := (blk_cell HSB.out 4).trans rfl
    have s5 : wc.cell? ⟨gs, 5, none⟩ = some (.int .i64 s.kind) := (blk_cell HSB.out 5).trans rfl
    have s6 : wc.cell? ⟨gs, 6, none⟩ = some (.string s.svc) := (blk_cell HSB.out 6).trans rfl
    have s7 : wc.cell? ⟨gs, 7, none⟩ = some (.string s.ver) := (blk_cell HSB.out 7).trans rfl
    have s8 : wc.cell? ⟨gs, 8, none⟩ = some (.string s.op) := (blk_cell HSB.out 8).trans rfl
    have s9 : wc.cell? ⟨gs, 9, none⟩ = some (.int .i64 s.st) := (blk_cell HSB.out 9).trans rfl
    have s10 : wc.cell? ⟨gs, 10, none⟩ = some (.int .i64 s.en) := (blk_cell HSB.out 10).trans rfl
    have s11 : wc.cell? ⟨gs, 11, none⟩ = some (.bool s.err) := (blk_cell HSB.out 11).trans rfl
    have s12 : wc.cell? ⟨gs, 12, none⟩ = some (.slice A12 0 c12) := (blk_cell HSB.out 12).trans rfl
    have s13 : wc.cell? ⟨gs, 13, none⟩ = some (.slice A13 0 c13) := (blk_cell HSB.out 13).trans rfl
    clear HCY HSB HFB KD
    refine start_ (n := 18) (S := fun w' => Below wc.heap.size wc w') (ds := []) #[false, false, false, false, false, false, false, false, false, false, false, false, false, false, false, false, false, false] (by kernel_rfl) rfl rfl (Below.refl _ _).drew (fun hHeld => ?_)
    refine with_tabW fvT.tab21 fvT.bits21 (fun HT_ HW_ => ?_)
    generalize wc.drew = wd at hHeld ⊢
    refine pure_ (i := 0) (N := some 156) (v := ?_) (a' := ?_) #[true, false, false, false, false, false, false, false, false, false, false, false, false, false, false, false, false, false] rfl rfl (any_of HT_.out (by kernel_rfl)) (fun _ _ _ h => hQ _ _ _ _ _ h) (Or.inl ⟨by rfl, ?_⟩) ?_ ?_
    rotate_left
    · intro w'
      go_simp
      with_reducible rfl
    rotate_left
    · simp only [Act.put, List.setIfInBounds_toArray, List.set_cons_zero, List.set_cons_succ, i64_w, i32_w]
      rfl
    refine pure_ (i := 1) (N := some 157) (v := ?_) (a' := ?_) #[true, true, false, false, false, false, false, false, false, false, false, false, false, false, false, false, false, false] rfl rfl (any_of HT_.out (by kernel_rfl)) (fun _ _ _ h => hQ _ _ _ _ _ h) (Or.inl ⟨by rfl, ?_⟩) ?_ ?_
    rotate_left
    · intro w'
      go_simp
      with_reducible rfl
    rotate_left
    · simp only [Act.put, List.setIfInBounds_toArray, List.set_cons_zero, List.set_cons_succ, i64_w, i32_w]
      rfl
    refine pure_ (i := 2) (N := some 158) (v := ?_) (a' := ?_) #[true, true, true, false, false, false, false, false, false, false, false, false, false, false, false, false, false, false] rfl rfl (any_of HT_.out (by kernel_rfl)) (fun _ _ _ h => hQ _ _ _ _ _ h) (Or.inl ⟨by rfl, ?_⟩) ?_ ?_
    rotate_left
    · intro w'
      go_simp
      with_reducible rfl
    rotate_left
    · simp only [Act.put, List.setIfInBounds_toArray, List.set_cons_zero, List.set_cons_succ, i64_w, i32_w]
      rfl
    refine pure_ (i := 3) (N := some 159) (v := ?_) (a' := ?_) #[true, true, true, true, false, false, false, false, false, false, false, false, false, false, false, false, false, false] rfl rfl (any_of HT_.out (by kernel_rfl)) (fun _ _ _ h => hQ _ _ _ _ _ h) (Or.inl ⟨by rfl, ?_⟩) ?_ ?_
    rotate_left
    · intro w'
      go_simp
      with_reducible rfl
    rotate_left
    · simp only [Act.put, List.setIfInBounds_toArray, List.set_cons_zero, List.set_cons_succ, i64_w, i32_w]
      rfl
    refine pure_ (i := 4) (N := some 160) (v := ?_) (a' := ?_) #[true, true, true, true, true, false, false, false, false, false, false, false, false, false, false, false, false, false] rfl rfl (any_of HT_.out (by kernel_rfl)) (fun _ _ _ h => hQ _ _ _ _ _ h) (Or.inl ⟨by rfl, ?_⟩) ?_ ?_
    rotate_left
    · intro w'
      go_simp
      with_reducible rfl
    rotate_left
    · simp only [Act.put, List.setIfInBounds_toArray, List.set_cons_zero, List.set_cons_succ, i64_w, i32_w]
      rfl
    refine pure_ (i := 5) (N := some 161) (v := ?_) (a' := ?_) #[true, true, true, true, true, true, false, false, false, false, false, false, false, false, false, false, false, false] rfl rfl (any_of HT_.out (by kernel_rfl)) (fun _ _ _ h => hQ _ _ _ _ _ h) (Or.inl ⟨by rfl, ?_⟩) ?_ ?_
    rotate_left
    · intro w'
      go_simp
      with_reducible rfl
    rotate_left
    · simp only [Act.put, List.setIfInBounds_toArray, List.set_cons_zero, List.set_cons_succ, i64_w, i32_w]
      rfl
    refine take_ (i := 6) (N := some 162) (v := ?_) (a' := ?_) #[true, true, true, true, true, true, true, false, false, false, false, false, false, false, false, false, false, false] rfl rfl (take_ofW HT_.out HW_.out (by kernel_rfl)) (fun _ _ _ h => hQ _ _ _ _ _ h) (Or.inl ⟨by rfl, ?_⟩) hHeld ?_ ?_
    rotate_left
    · intro w' hS
      replace u2 := (hS.cell (World.block_lt_of_cell? _ _ u2)).trans u2
      go_simp
      with_reducible rfl
    rotate_left
    · simp only [Act.put, List.setIfInBounds_toArray, List.set_cons_zero, List.set_cons_succ, i64_w, i32_w]
      rfl
    refine pure_ (i := 7) (N := some 163) (v := ?_) (a' := ?_) #[true, true, true, true, true, true, true, true, false, false, false, false, false, false, false, false, false, false] rfl rfl (any_of HT_.out (by kernel_rfl)) (fun _ _ _ h => hQ _ _ _ _ _ h) (Or.inl ⟨by rfl, ?_⟩) ?_ ?_
    rotate_left
    · intro w'
      go_simp
      with_reducible rfl
    rotate_left
    · simp only [Act.put, List.setIfInBounds_toArray, List.set_cons_zero, List.set_cons_succ, i64_w, i32_w]
      rfl
    refine pure_ (i := 8) (N := some 164) (v := ?_) (a' := ?_) #[true, true, true, true, true, true, true, true, true, false, false, false, false, false, false, false, false, false] rfl rfl (any_of HT_.out (by kernel_rfl)) (fun _ _ _ h => hQ _ _ _ _ _ h) (Or.inl ⟨by rfl, ?_⟩) ?_ ?_
    rotate_left
    · intro w'
      go_simp
      with_reducible rfl
    rotate_left
    · simp only [Act.put, List.setIfInBounds_toArray, List.set_cons_zero, List.set_cons_succ, i64_w, i32_w]
      rfl
    refine take_ (i := 9) (N := some 165) (v := ?_) (a' := ?_) #[true, true, true, true, true, true, true, true, true, true, false, false, false, false, false, false, false, false] rfl rfl (take_ofW HT_.out HW_.out (by kernel_rfl)) (fun _ _ _ h => hQ _ _ _ _ _ h) (Or.inl ⟨by rfl, ?_⟩) hHeld ?_ ?_
    rotate_left
    · intro w' hS
      replace t0 := (hS.cell (World.block_lt_of_cell? _ _ t0)).trans t0
      replace t1 := (hS.cell (World.block_lt_of_cell? _ _ t1)).trans t1
      replace t2' := (hS.cell (World.block_lt_of_cell? _ _ t2')).trans t2'
      replace t3 := (hS.cell (World.block_lt_of_cell? _ _ t3)).trans t3
      replace t4 := (hS.cell (World.block_lt_of_cell? _ _ t4)).trans t4
      replace t5 := (hS.cell (World.block_lt_of_cell? _ _ t5)).trans t5
      replace t6 := (hS.cell (World.block_lt_of_cell? _ _ t6)).trans t6
      replace t7 := (hS.cell (World.block_lt_of_cell? _ _ t7)).trans t7
      replace t8 := (hS.cell (World.block_lt_of_cell? _ _ t8)).trans t8
      replace t9 := (hS.cell (World.block_lt_of_cell? _ _ t9)).trans t9
      replace t10 := (hS.cell (World.block_lt_of_cell? _ _ t10)).trans t10
      replace t11 := (hS.cell (World.block_lt_of_cell? _ _ t11)).trans t11
      replace t12 := (hS.cell (World.block_lt_of_cell? _ _ t12)).trans t12
      replace t13 := (hS.cell (World.block_lt_of_cell? _ _ t13)).trans t13
      go_simp
      with_reducible rfl
    rotate_left
    · simp only [Act.put, List.setIfInBounds_toArray, List.set_cons_zero, List.set_cons_succ, i64_w, i32_w]
      rfl
    refine take_ (i := 11) (N := some 167) (v := ?_) (a' := ?_) #[true, true, true, true, true, true, true, true, true, true, false, true, false, false, false, false, false, false] rfl rfl (take_ofW HT_.out HW_.out (by kernel_rfl)) (fun _ _ _ h => hQ _ _ _ _ _ h) (Or.inl ⟨by rfl, ?_⟩) hHeld ?_ ?_
    rotate_left
    · intro w' hS
      replace s0 := (hS.cell (World.block_lt_of_cell? _ _ s0)).trans s0
      replace s1 := (hS.cell (World.block_lt_of_cell? _ _ s1)).trans s1
      replace s2 := (hS.cell (World.block_lt_of_cell? _ _ s2)).trans s2
      replace s3 := (hS.cell (World.block_lt_of_cell? _ _ s3)).trans s3
      replace s4 := (hS.cell (World.block_lt_of_cell? _ _ s4)).trans s4
      replace s5 := (hS.cell (World.block_lt_of_cell? _ _ s5)).trans s5
      replace s6 := (hS.cell (World.block_lt_of_cell? _ _ s6)).trans s6
      replace s7 := (hS.cell (World.block_lt_of_cell? _ _ s7)).trans s7
      replace s8 := (hS.cell (World.block_lt_of_cell? _ _ s8)).trans s8
      replace s9 := (hS.cell (World.block_lt_of_cell? _ _ s9)).trans s9
      replace s10 := (hS.cell (World.block_lt_of_cell? _ _ s10)).trans s10
      replace s11 := (hS.cell (World.block_lt_of_cell? _ _ s11)).trans s11
      replace s12 := (hS.cell (World.block_lt_of_cell? _ _ s12)).trans s12
      replace s13 := (hS.cell (World.block_lt_of_cell? _ _ s13)).trans s13
      go_simp
      with_reducible rfl
    rotate_left
    · simp only [Act.put, List.setIfInBounds_toArray, List.set_cons_zero, List.set_cons_succ, i64_w, i32_w]
      rfl
    refine pure_ (i := 13) (N := some 169) (v := ?_) (a' := ?_) #[true, true, true, true, true, true, true, true, true, true, false, true, false, true, false, false, false, false] rfl rfl (any_of HT_.out (by kernel_rfl)) (fun _ _ _ h => hQ _ _ _ _ _ h) (Or.inl ⟨by rfl, ?_⟩) ?_ ?_
    rotate_left
    · intro w'
      go_simp
      with_reducible rfl
    rotate_left
    · simp only [Act.put, List.setIfInBounds_toArray, List.set_cons_zero, List.set_cons_succ, i64_w, i32_w]
      rfl
    refine take_ (i := 14) (N := some 170) (v := ?_) (a' := ?_) #[true, true, true, true, true, true, true, true, true, true, false, true, false, true, true, false, false, false] rfl rfl (take_ofW HT_.out HW_.out (by kernel_rfl)) (fun _ _ _ h => hQ _ _ _ _ _ h) (Or.inl ⟨by rfl, ?_⟩) hHeld ?_ ?_
    rotate_left
    · intro w' hS
      replace y3 := (hS.cell (World.block_lt_of_cell? _ _ y3)).trans y3
      go_simp
      with_reducible rfl
    rotate_left
    · simp only [Act.put, List.setIfInBounds_toArray, List.set_cons_zero, List.set_cons_succ, i64_w, i32_w]
      rfl
    refine one_ (i := 10) (N := some 166) #[true, true, true, true, true, true, true, true, true, true, true, true, false, true, true, false, false, false] rfl rfl (one_of HT_.out (by kernel_rfl)) (by decide) (fun K hK => ?_)
    refine goes_ Try.func19 (by kernel_rfl) rfl #[.agg #[.int .i64 t.tr, .int .i64 t.id, .int .i64 t.par, .int .i64 t.rev, .int .i64 t.clk, .int .i64 t.kind, .string t.svc, .string t.ver, .string t.op, .int .i64 t.st, .int .i64 t.en, .bool t.err, .slice B12 0 e12, .slice B13 0 e13]] (by rfl) rfl rfl (by (try simp only [List.map_toArray, List.map_cons, List.map_nil]); first | done | rfl) ?_
    with_reducible refine (duration_calls _ _ _ _ _ _ _ _ _ t.st t.en _ _ _ _).mono ?_
    rintro e w19 ⟨rfl, hb⟩
    refine ⟨_, rfl, ?_⟩
    replace hHeld := below_step hHeld hb
    clear hb
    refine hK.out _ _ hHeld (fun hHeld => ?_)
    clear hK K
    refine norm_ (a' := ?_) ?_ ?_
    rotate_left
    · show Act.put _ (some 166) _ = _
      simp only [Act.put, List.setIfInBounds_toArray, List.set_cons_zero, List.set_cons_succ, i64_w, i32_w]
      rfl
    refine one_ (i := 12) (N := some 168) #[true, true, true, true, true, true, true, true, true, true, true, true, true, true, true, false, false, false] rfl rfl (one_of HT_.out (by kernel_rfl)) (by decide) (fun K hK => ?_)
    refine goes_ Try.func19 (by kernel_rfl) rfl #[.agg #[.int .i64 s.tr, .int .i64 s.id, .int .i64 s.par, .int .i64 s.rev, .int .i64 s.clk, .int .i64 s.kind, .string s.svc, .string s.ver, .string s.op, .int .i64 s.st, .int .i64 s.en, .bool s.err, .slice A12 0 c12, .slice A13 0 c13]] (by rfl) rfl rfl (by (try simp only [List.map_toArray, List.map_cons, List.map_nil]); first | done | rfl) ?_
    with_reducible refine (duration_calls _ _ _ _ _ _ _ _ _ s.st s.en _ _ _ _).mono ?_
    rintro e w20 ⟨rfl, hb⟩
    refine ⟨_, rfl, ?_⟩
    replace hHeld := below_step hHeld hb
    clear hb
    refine hK.out _ _ hHeld (fun hHeld => ?_)
    clear hK K
    refine norm_ (a' := ?_) ?_ ?_
    rotate_left
    · show Act.put _ (some 168) _ = _
      simp only [Act.put, List.setIfInBounds_toArray, List.set_cons_zero, List.set_cons_succ, i64_w, i32_w]
      rfl
    refine pure_ (i := 15) (N := some 171) (v := ?_) (a' := ?_) #[true, true, true, true, true, true, true, true, true, true, true, true, true, true, true, true, false, false] rfl rfl (any_of HT_.out (by kernel_rfl)) (fun _ _ _ h => hQ _ _ _ _ _ h) (Or.inl ⟨by rfl, ?_⟩) ?_ ?_
    rotate_left
    · intro w'
      go_simp
      with_reducible rfl
    rotate_left
    · simp only [Act.put, List.setIfInBounds_toArray, List.set_cons_zero, List.set_cons_succ, i64_w, i32_w]
      rfl
    refine pure_ (i := 16) (N := some 172) (v := ?_) (a' := ?_) #[true, true, true, true, true, true, true, true, true, true, true, true, true, true, true, true, true, false] rfl rfl (any_of HT_.out (by kernel_rfl)) (fun _ _ _ h => hQ _ _ _ _ _ h) (Or.inl ⟨by rfl, ?_⟩) ?_ ?_
    rotate_left
    · intro w'
      go_simp
      with_reducible rfl
    rotate_left
    · simp only [Act.put, List.setIfInBounds_toArray, List.set_cons_zero, List.set_cons_succ, i64_w, i32_w]
      rfl
    refine pure_ (i := 17) (N := some 173) (v := ?_) (a' := ?_) #[true, true, true, true, true, true, true, true, true, true, true, true, true, true, true, true, true, true] rfl rfl (any_of HT_.out (by kernel_rfl)) (fun _ _ _ h => hQ _ _ _ _ _ h) (Or.inl ⟨by rfl, ?_⟩) ?_ ?_
    rotate_left
    · intro w'
      go_simp
      with_reducible rfl
    rotate_left
    · simp only [Act.put, List.setIfInBounds_toArray, List.set_cons_zero, List.set_cons_succ, i64_w, i32_w]
      rfl
    refine done_ (done_of HT_.out (by kernel_rfl)) ?_
    go_wp2
    refine HKK.out ?_
    exact ⟨rfl, ⟨hHeld⟩⟩
  | false =>
    clear u2 HCY HSB HFB KD
    refine start_ (n := 18) (S := fun w' => Below wc.heap.size wc w') (ds := []) #[false, false, false, false, false, false, false, false, false, false, false, false, false, false, false, false, false, false] (by kernel_rfl) rfl rfl (Below.refl _ _).drew (fun hHeld => ?_)
    refine with_tabW fvT.tab21 fvT.bits21 (fun HT_ HW_ => ?_)
    generalize wc.drew = wd at hHeld ⊢
    refine pure_ (i := 0) (N := some 156) (v := ?_) (a' := ?_) #[true, false, false, false, false, false, false, false, false, false, false, false, false, false, false, false, false, false] rfl rfl (any_of HT_.out (by kernel_rfl)) (fun _ _ _ h => hQ _ _ _ _ _ h) (Or.inl ⟨by rfl, ?_⟩) ?_ ?_
    rotate_left
    · intro w'
      go_simp
      with_reducible rfl
    rotate_left
    · simp only [Act.put, List.setIfInBounds_toArray, List.set_cons_zero, List.set_cons_succ, i64_w, i32_w]
      rfl
    refine pure_ (i := 1) (N := some 157) (v := ?_) (a' := ?_) #[true, true, false, false, false, false, false, false, false, false, false, false, false, false, false, false, false, false] rfl rfl (any_of HT_.out (by kernel_rfl)) (fun _ _ _ h => hQ _ _ _ _ _ h) (Or.inl ⟨by rfl, ?_⟩) ?_ ?_
    rotate_left
    · intro w'
      go_simp
      with_reducible rfl
    rotate_left
    · simp only [Act.put, List.setIfInBounds_toArray, List.set_cons_zero, List.set_cons_succ, i64_w, i32_w]
      rfl
    refine pure_ (i := 2) (N := some 158) (v := undef) (a' := ?_) #[true, true, true, false, false, false, false, false, false, false, false, false, false, false, false, false, false, false] rfl rfl (any_of HT_.out (by kernel_rfl)) (fun _ _ _ h => hQ _ _ _ _ _ h) (Or.inr ⟨by rfl, rfl⟩) ?_ ?_
    rotate_left
    · simp only [Act.put, List.setIfInBounds_toArray, List.set_cons_zero, List.set_cons_succ, i64_w, i32_w]
      rfl
    refine pure_ (i := 3) (N := some 159) (v := undef) (a' := ?_) #[true, true, true, true, false, false, false, false, false, false, false, false, false, false, false, false, false, false] rfl rfl (any_of HT_.out (by kernel_rfl)) (fun _ _ _ h => hQ _ _ _ _ _ h) (Or.inr ⟨by rfl, rfl⟩) ?_ ?_
    rotate_left
    · simp only [Act.put, List.setIfInBounds_toArray, List.set_cons_zero, List.set_cons_succ, i64_w, i32_w]
      rfl
    refine pure_ (i := 4) (N := some 160) (v := undef) (a' := ?_) #[true, true, true, true, true, false, false, false, false, false, false, false, false, false, false, false, false, false] rfl rfl (any_of HT_.out (by kernel_rfl)) (fun _ _ _ h => hQ _ _ _ _ _ h) (Or.inr ⟨by rfl, rfl⟩) ?_ ?_
    rotate_left
    · simp only [Act.put, List.setIfInBounds_toArray, List.set_cons_zero, List.set_cons_succ, i64_w, i32_w]
      rfl
    refine pure_ (i := 5) (N := some 161) (v := undef) (a' := ?_) #[true, true, true, true, true, true, false, false, false, false, false, false, false, false, false, false, false, false] rfl rfl (any_of HT_.out (by kernel_rfl)) (fun _ _ _ h => hQ _ _ _ _ _ h) (Or.inr ⟨by rfl, rfl⟩) ?_ ?_
    rotate_left
    · simp only [Act.put, List.setIfInBounds_toArray, List.set_cons_zero, List.set_cons_succ, i64_w, i32_w]
      rfl
    refine take_ (i := 6) (N := some 162) (v := undef) (a' := ?_) #[true, true, true, true, true, true, true, false, false, false, false, false, false, false, false, false, false, false] rfl rfl (take_ofW HT_.out HW_.out (by kernel_rfl)) (fun _ _ _ h => hQ _ _ _ _ _ h) (Or.inr ⟨by rfl, rfl⟩) hHeld ?_ ?_
    rotate_left
    · simp only [Act.put, List.setIfInBounds_toArray, List.set_cons_zero, List.set_cons_succ, i64_w, i32_w]
      rfl
    refine pure_ (i := 7) (N := some 163) (v := undef) (a' := ?_) #[true, true, true, true, true, true, true, true, false, false, false, false, false, false, false, false, false, false] rfl rfl (any_of HT_.out (by kernel_rfl)) (fun _ _ _ h => hQ _ _ _ _ _ h) (Or.inr ⟨by rfl, rfl⟩) ?_ ?_
    rotate_left
    · simp only [Act.put, List.setIfInBounds_toArray, List.set_cons_zero, List.set_cons_succ, i64_w, i32_w]
      rfl
    refine pure_ (i := 8) (N := some 164) (v := undef) (a' := ?_) #[true, true, true, true, true, true, true, true, true, false, false, false, false, false, false, false, false, false] rfl rfl (any_of HT_.out (by kernel_rfl)) (fun _ _ _ h => hQ _ _ _ _ _ h) (Or.inr ⟨by rfl, rfl⟩) ?_ ?_
    rotate_left
    · simp only [Act.put, List.setIfInBounds_toArray, List.set_cons_zero, List.set_cons_succ, i64_w, i32_w]
      rfl
    refine take_ (i := 9) (N := some 165) (v := undef) (a' := ?_) #[true, true, true, true, true, true, true, true, true, true, false, false, false, false, false, false, false, false] rfl rfl (take_ofW HT_.out HW_.out (by kernel_rfl)) (fun _ _ _ h => hQ _ _ _ _ _ h) (Or.inr ⟨by rfl, rfl⟩) hHeld ?_ ?_
    rotate_left
    · simp only [Act.put, List.setIfInBounds_toArray, List.set_cons_zero, List.set_cons_succ, i64_w, i32_w]
      rfl
    refine take_ (i := 11) (N := some 167) (v := undef) (a' := ?_) #[true, true, true, true, true, true, true, true, true, true, false, true, false, false, false, false, false, false] rfl rfl (take_ofW HT_.out HW_.out (by kernel_rfl)) (fun _ _ _ h => hQ _ _ _ _ _ h) (Or.inr ⟨by rfl, rfl⟩) hHeld ?_ ?_
    rotate_left
    · simp only [Act.put, List.setIfInBounds_toArray, List.set_cons_zero, List.set_cons_succ, i64_w, i32_w]
      rfl
    refine pure_ (i := 13) (N := some 169) (v := undef) (a' := ?_) #[true, true, true, true, true, true, true, true, true, true, false, true, false, true, false, false, false, false] rfl rfl (any_of HT_.out (by kernel_rfl)) (fun _ _ _ h => hQ _ _ _ _ _ h) (Or.inr ⟨by rfl, rfl⟩) ?_ ?_
    rotate_left
    · simp only [Act.put, List.setIfInBounds_toArray, List.set_cons_zero, List.set_cons_succ, i64_w, i32_w]
      rfl
    refine take_ (i := 14) (N := some 170) (v := undef) (a' := ?_) #[true, true, true, true, true, true, true, true, true, true, false, true, false, true, true, false, false, false] rfl rfl (take_ofW HT_.out HW_.out (by kernel_rfl)) (fun _ _ _ h => hQ _ _ _ _ _ h) (Or.inr ⟨by rfl, rfl⟩) hHeld ?_ ?_
    rotate_left
    · simp only [Act.put, List.setIfInBounds_toArray, List.set_cons_zero, List.set_cons_succ, i64_w, i32_w]
      rfl
    refine one_ (i := 10) (N := some 166) #[true, true, true, true, true, true, true, true, true, true, true, true, false, true, true, false, false, false] rfl rfl (one_of HT_.out (by kernel_rfl)) (by decide) (fun K hK => ?_)
    rw [if_neg (by intro h; exact Bool.false_ne_true h)]
    refine hK.out _ _ hHeld (fun hHeld => ?_)
    clear hK K
    refine norm_ (a' := ?_) ?_ ?_
    rotate_left
    · show Act.put _ (some 166) _ = _
      simp only [Act.put, List.setIfInBounds_toArray, List.set_cons_zero, List.set_cons_succ, i64_w, i32_w]
      rfl
    refine one_ (i := 12) (N := some 168) #[true, true, true, true, true, true, true, true, true, true, true, true, true, true, true, false, false, false] rfl rfl (one_of HT_.out (by kernel_rfl)) (by decide) (fun K hK => ?_)
    rw [if_neg (by intro h; exact Bool.false_ne_true h)]
    refine hK.out _ _ hHeld (fun hHeld => ?_)
    clear hK K
    refine norm_ (a' := ?_) ?_ ?_
    rotate_left
    · show Act.put _ (some 168) _ = _
      simp only [Act.put, List.setIfInBounds_toArray, List.set_cons_zero, List.set_cons_succ, i64_w, i32_w]
      rfl
    refine pure_ (i := 15) (N := some 171) (v := undef) (a' := ?_) #[true, true, true, true, true, true, true, true, true, true, true, true, true, true, true, true, false, false] rfl rfl (any_of HT_.out (by kernel_rfl)) (fun _ _ _ h => hQ _ _ _ _ _ h) (Or.inr ⟨by rfl, rfl⟩) ?_ ?_
    rotate_left
    · simp only [Act.put, List.setIfInBounds_toArray, List.set_cons_zero, List.set_cons_succ, i64_w, i32_w]
      rfl
    refine pure_ (i := 16) (N := some 172) (v := undef) (a' := ?_) #[true, true, true, true, true, true, true, true, true, true, true, true, true, true, true, true, true, false] rfl rfl (any_of HT_.out (by kernel_rfl)) (fun _ _ _ h => hQ _ _ _ _ _ h) (Or.inr ⟨by rfl, rfl⟩) ?_ ?_
    rotate_left
    · simp only [Act.put, List.setIfInBounds_toArray, List.set_cons_zero, List.set_cons_succ, i64_w, i32_w]
      rfl
    refine pure_ (i := 17) (N := some 173) (v := ?_) (a' := ?_) #[true, true, true, true, true, true, true, true, true, true, true, true, true, true, true, true, true, true] rfl rfl (any_of HT_.out (by kernel_rfl)) (fun _ _ _ h => hQ _ _ _ _ _ h) (Or.inl ⟨by rfl, ?_⟩) ?_ ?_
    rotate_left
    · intro w'
      go_simp
      with_reducible rfl
    rotate_left
    · simp only [Act.put, List.setIfInBounds_toArray, List.set_cons_zero, List.set_cons_succ, i64_w, i32_w]
      rfl
    refine done_ (done_of HT_.out (by kernel_rfl)) ?_
    go_wp2
    refine HKK.out ?_
    exact ⟨rfl, ⟨hHeld⟩⟩
def reg23F : { c : Array Oper // opsIn (Try.f5.body.getD .skip) 23 = some c } := ⟨_, by rfl⟩
set_option maxHeartbeats 8000000 in
set_option maxRecDepth 100000 in
theorem faults_reg23 (cb : Bool) (i n cA cB : Nat) (ad ae : Addr) (wr : World) (hi : i < n) (hn : n ≤ 9223372036854775807) (hcA : n ≤ cA) (hcB : n ≤ cB) (HST : Aside0 (cb = false → ∀ W, Below wr.heap.size wr W → Calls Try.prog 20 #[.slice (some (ad.add (i * 3))) 1 (cA - i), .slice (some (ae.add (i * 3))) 1 (cB - i)] W fun e w' => e = .returned (.bool true) ∧ Below W.heap.size W w')) {q0 q1 q2 q3 q4 q5 q6 q8 q10 q11 q12 q14 q16 q17 q18 q19 q20 q21 q22 q23 q24 q25 q26 q27 q28 q29 q30 q31 q32 q33 q34 q35 q36 q37 q38 q39 q40 q41 q42 q43 q44 q45 q46 q47 q48 q49 q50 q51 q52 q53 q54 q55 q56 q57 q58 q59 q60 q61 q62 q63 q64 q65 q66 q67 q68 q69 q70 q71 q72 q73 q74 q75 q76 q77 q78 q79 q80 q81 q82 q83 q84 q85 q86 q87 q88 q89 q90 q91 q92 q93 q94 q95 q96 q97 q98 q99 q100 q101 q102 q103 q104 q105 q106 q107 q108 q109 q110 q111 q112 q113 q114 q115 q116 q117 q118 q119 q120 q121 q122 q123 q124 q125 q126 q127 q128 q129 q130 q131 q132 q133 q134 q135 q136 q137 q138 q139 q140 q141 q142 q143 q144 q145 q146 q147 q148 q149 q150 q151 q152 q153 q154 q155 q156 q157 q158 q159 q160 q161 q162 q163 q164 q165 q166 q167 q168 q169 q170 q171 q172 q173 q174 q175 q176 q177 q178 q179 q180 q181 q182 q183 q184 q185 q186 q187 q188 q189 : Value} (Q : Exit → Go.Act → World → Prop) (hQ : ∀ x (a : Go.Act) N v w, Q (Exit.panic x) (Go.Act.put a N v) w → Q (Exit.panic x) a w) (KK : Go.Act → World → Prop) (HKK : Aside0 (∀ {r174 r175 r176 r177 r178 r179 r180 r181 r182 r183 r184 r185 r186 r187 r188 r189 : Value} {wz : World}, (r189 = .bool false ∧ Aside0 (Below wr.heap.size wr wz)) → KK { tmps := List.toArray (q0 :: q1 :: q2 :: q3 :: q4 :: q5 :: q6 :: (.slice (some ad) n cA) :: q8 :: (.slice (some ae) n cB) :: q10 :: q11 :: q12 :: (.int .i64 (i : Int)) :: q14 :: (.bool cb) :: q16 :: q17 :: q18 :: q19 :: q20 :: q21 :: q22 :: q23 :: q24 :: q25 :: q26 :: q27 :: q28 :: q29 :: q30 :: q31 :: q32 :: q33 :: q34 :: q35 :: q36 :: q37 :: q38 :: q39 :: q40 :: q41 :: q42 :: q43 :: q44 :: q45 :: q46 :: q47 :: q48 :: q49 :: q50 :: q51 :: q52 :: q53 :: q54 :: q55 :: q56 :: q57 :: q58 :: q59 :: q60 :: q61 :: q62 :: q63 :: q64 :: q65 :: q66 :: q67 :: q68 :: q69 :: q70 :: q71 :: q72 :: q73 :: q74 :: q75 :: q76 :: q77 :: q78 :: q79 :: q80 :: q81 :: q82 :: q83 :: q84 :: q85 :: q86 :: q87 :: q88 :: q89 :: q90 :: q91 :: q92 :: q93 :: q94 :: q95 :: q96 :: q97 :: q98 :: q99 :: q100 :: q101 :: q102 :: q103 :: q104 :: q105 :: q106 :: q107 :: q108 :: q109 :: q110 :: q111 :: q112 :: q113 :: q114 :: q115 :: q116 :: q117 :: q118 :: q119 :: q120 :: q121 :: q122 :: q123 :: q124 :: q125 :: q126 :: q127 :: q128 :: q129 :: q130 :: q131 :: q132 :: q133 :: q134 :: q135 :: q136 :: q137 :: q138 :: q139 :: q140 :: q141 :: q142 :: q143 :: q144 :: q145 :: q146 :: q147 :: q148 :: q149 :: q150 :: q151 :: q152 :: q153 :: q154 :: q155 :: q156 :: q157 :: q158 :: q159 :: q160 :: q161 :: q162 :: q163 :: q164 :: q165 :: q166 :: q167 :: q168 :: q169 :: q170 :: q171 :: q172 :: q173 :: (r174) :: (r175) :: (r176) :: (r177) :: (r178) :: (r179) :: (r180) :: (r181) :: (r182) :: (r183) :: (r184) :: (r185) :: (r186) :: (r187) :: (r188) :: (r189) :: []), defers := [] } wz)) :
    Code.wp Try.prog (Code.region 23 reg23F.1 true) (Exit.then KK Q) { tmps := List.toArray (q0 :: q1 :: q2 :: q3 :: q4 :: q5 :: q6 :: (.slice (some ad) n cA) :: q8 :: (.slice (some ae) n cB) :: q10 :: q11 :: q12 :: (.int .i64 (i : Int)) :: q14 :: (.bool cb) :: q16 :: q17 :: q18 :: q19 :: q20 :: q21 :: q22 :: q23 :: q24 :: q25 :: q26 :: q27 :: q28 :: q29 :: q30 :: q31 :: q32 :: q33 :: q34 :: q35 :: q36 :: q37 :: q38 :: q39 :: q40 :: q41 :: q42 :: q43 :: q44 :: q45 :: q46 :: q47 :: q48 :: q49 :: q50 :: q51 :: q52 :: q53 :: q54 :: q55 :: q56 :: q57 :: q58 :: q59 :: q60 :: q61 :: q62 :: q63 :: q64 :: q65 :: q66 :: q67 :: q68 :: q69 :: q70 :: q71 :: q72 :: q73 :: q74 :: q75 :: q76 :: q77 :: q78 :: q79 :: q80 :: q81 :: q82 :: q83 :: q84 :: q85 :: q86 :: q87 :: q88 :: q89 :: q90 :: q91 :: q92 :: q93 :: q94 :: q95 :: q96 :: q97 :: q98 :: q99 :: q100 :: q101 :: q102 :: q103 :: q104 :: q105 :: q106 :: q107 :: q108 :: q109 :: q110 :: q111 :: q112 :: q113 :: q114 :: q115 :: q116 :: q117 :: q118 :: q119 :: q120 :: q121 :: q122 :: q123 :: q124 :: q125 :: q126 :: q127 :: q128 :: q129 :: q130 :: q131 :: q132 :: q133 :: q134 :: q135 :: q136 :: q137 :: q138 :: q139 :: q140 :: q141 :: q142 :: q143 :: q144 :: q145 :: q146 :: q147 :: q148 :: q149 :: q150 :: q151 :: q152 :: q153 :: q154 :: q155 :: q156 :: q157 :: q158 :: q159 :: q160 :: q161 :: q162 :: q163 :: q164 :: q165 :: q166 :: q167 :: q168 :: q169 :: q170 :: q171 :: q172 :: q173 :: q174 :: q175 :: q176 :: q177 :: q178 :: q179 :: q180 :: q181 :: q182 :: q183 :: q184 :: q185 :: q186 :: q187 :: q188 :: q189 :: []), defers := [] } wr := by
  dsimp only [reg23F]
  cases cb with
  | true =>
    clear HST
    refine start_ (n := 16) (S := fun w' => Below wr.heap.size wr w') (ds := []) #[false, false, false, false, false, false, false, false, false, false, false, false, false, false, false, false] (by kernel_rfl) rfl rfl (Below.refl _ _).drew (fun hHeld => ?_)
    refine with_tabW fvT.tab23 fvT.bits23 (fun HT_ HW_ => ?_)
    generalize wr.drew = wd at hHeld ⊢
    refine pure_ (i := 0) (N := some 174) (v := ?_) (a' := ?_) #[true, false, false, false, false, false, false, false, false, false, false, false, false, false, false, false] rfl rfl (any_of HT_.out (by kernel_rfl)) (fun _ _ _ h => hQ _ _ _ _ _ h) (Or.inl ⟨by rfl, ?_⟩) ?_ ?_
    rotate_left
    · intro w'
      go_simp
      with_reducible rfl
    rotate_left
    · simp only [Act.put, List.setIfInBounds_toArray, List.set_cons_zero, List.set_cons_succ, i64_w, i32_w]
      rfl
    refine pure_ (i := 1) (N := some 175) (v := ?_) (a' := ?_) #[true, true, false, false, false, false, false, false, false, false, false, false, false, false, false, false] rfl rfl (any_of HT_.out (by kernel_rfl)) (fun _ _ _ h => hQ _ _ _ _ _ h) (Or.inl ⟨by rfl, ?_⟩) ?_ ?_
    rotate_left
    · intro w'
      go_simp
      with_reducible rfl
    rotate_left
    · simp only [Act.put, List.setIfInBounds_toArray, List.set_cons_zero, List.set_cons_succ, i64_w, i32_w]
      rfl
    refine pure_ (i := 2) (N := some 176) (v := ?_) (a' := ?_) #[true, true, true, false, false, false, false, false, false, false, false, false, false, false, false, false] rfl rfl (any_of HT_.out (by kernel_rfl)) (fun _ _ _ h => hQ _ _ _ _ _ h) (Or.inl ⟨by rfl, ?_⟩) ?_ ?_
    rotate_left
    · intro w'
      go_simp
      with_reducible rfl
    rotate_left
    · simp only [Act.put, List.setIfInBounds_toArray, List.set_cons_zero, List.set_cons_succ, i64_w, i32_w]
      rfl
    refine pure_ (i := 3) (N := some 177) (v := undef) (a' := ?_) #[true, true, true, true, false, false, false, false, false, false, false, false, false, false, false, false] rfl rfl (any_of HT_.out (by kernel_rfl)) (fun _ _ _ h => hQ _ _ _ _ _ h) (Or.inr ⟨by rfl, rfl⟩) ?_ ?_
    rotate_left
    · simp only [Act.put, List.setIfInBounds_toArray, List.set_cons_zero, List.set_cons_succ, i64_w, i32_w]
      rfl
    refine pure_ (i := 4) (N := some 178) (v := undef) (a' := ?_) #[true, true, true, true, true, false, false, false, false, false, false, false, false, false, false, false] rfl rfl (any_of HT_.out (by kernel_rfl)) (fun _ _ _ h => hQ _ _ _ _ _ h) (Or.inr ⟨by rfl, rfl⟩) ?_ ?_
    rotate_left
    · simp only [Act.put, List.setIfInBounds_toArray, List.set_cons_zero, List.set_cons_succ, i64_w, i32_w]
      rfl
    refine pure_ (i := 5) (N := some 179) (v := undef) (a' := ?_) #[true, true, true, true, true, true, false, false, false, false, false, false, false, false, false, false] rfl rfl (any_of HT_.out (by kernel_rfl)) (fun _ _ _ h => hQ _ _ _ _ _ h) (Or.inr ⟨by rfl, rfl⟩) ?_ ?_
    rotate_left
    · simp only [Act.put, List.setIfInBounds_toArray, List.set_cons_zero, List.set_cons_succ, i64_w, i32_w]
      rfl
    refine pure_ (i := 6) (N := some 180) (v := undef) (a' := ?_) #[true, true, true, true, true, true, true, false, false, false, false, false, false, false, false, false] rfl rfl (any_of HT_.out (by kernel_rfl)) (fun _ _ _ h => hQ _ _ _ _ _ h) (Or.inr ⟨by rfl, rfl⟩) ?_ ?_
    rotate_left
    · simp only [Act.put, List.setIfInBounds_toArray, List.set_cons_zero, List.set_cons_succ, i64_w, i32_w]
      rfl
    refine pure_ (i := 7) (N := some 181) (v := undef) (a' := ?_) #[true, true, true, true, true, true, true, true, false, false, false, false, false, false, false, false] rfl rfl (any_of HT_.out (by kernel_rfl)) (fun _ _ _ h => hQ _ _ _ _ _ h) (Or.inr ⟨by rfl, rfl⟩) ?_ ?_
    rotate_left
    · simp only [Act.put, List.setIfInBounds_toArray, List.set_cons_zero, List.set_cons_succ, i64_w, i32_w]
      rfl
    refine pure_ (i := 8) (N := some 182) (v := undef) (a' := ?_) #[true, true, true, true, true, true, true, true, true, false, false, false, false, false, false, false] rfl rfl (any_of HT_.out (by kernel_rfl)) (fun _ _ _ h => hQ _ _ _ _ _ h) (Or.inr ⟨by rfl, rfl⟩) ?_ ?_
    rotate_left
    · simp only [Act.put, List.setIfInBounds_toArray, List.set_cons_zero, List.set_cons_succ, i64_w, i32_w]
      rfl
    refine pure_ (i := 9) (N := some 183) (v := undef) (a' := ?_) #[true, true, true, true, true, true, true, true, true, true, false, false, false, false, false, false] rfl rfl (any_of HT_.out (by kernel_rfl)) (fun _ _ _ h => hQ _ _ _ _ _ h) (Or.inr ⟨by rfl, rfl⟩) ?_ ?_
    rotate_left
    · simp only [Act.put, List.setIfInBounds_toArray, List.set_cons_zero, List.set_cons_succ, i64_w, i32_w]
      rfl
    refine pure_ (i := 10) (N := some 184) (v := undef) (a' := ?_) #[true, true, true, true, true, true, true, true, true, true, true, false, false, false, false, false] rfl rfl (any_of HT_.out (by kernel_rfl)) (fun _ _ _ h => hQ _ _ _ _ _ h) (Or.inr ⟨by rfl, rfl⟩) ?_ ?_
    rotate_left
    · simp only [Act.put, List.setIfInBounds_toArray, List.set_cons_zero, List.set_cons_succ, i64_w, i32_w]
      rfl
    refine pure_ (i := 11) (N := some 185) (v := undef) (a' := ?_) #[true, true, true, true, true, true, true, true, true, true, true, true, false, false, false, false] rfl rfl (any_of HT_.out (by kernel_rfl)) (fun _ _ _ h => hQ _ _ _ _ _ h) (Or.inr ⟨by rfl, rfl⟩) ?_ ?_
    rotate_left
    · simp only [Act.put, List.setIfInBounds_toArray, List.set_cons_zero, List.set_cons_succ, i64_w, i32_w]
      rfl
    refine pure_ (i := 12) (N := some 186) (v := undef) (a' := ?_) #[true, true, true, true, true, true, true, true, true, true, true, true, true, false, false, false] rfl rfl (any_of HT_.out (by kernel_rfl)) (fun _ _ _ h => hQ _ _ _ _ _ h) (Or.inr ⟨by rfl, rfl⟩) ?_ ?_
    rotate_left
    · simp only [Act.put, List.setIfInBounds_toArray, List.set_cons_zero, List.set_cons_succ, i64_w, i32_w]
      rfl
    refine one_ (i := 13) (N := some 187) #[true, true, true, true, true, true, true, true, true, true, true, true, true, true, false, false] rfl rfl (one_of HT_.out (by kernel_rfl)) (by decide) (fun K hK => ?_)
    rw [if_neg (by intro h; exact Bool.false_ne_true h)]
    refine hK.out _ _ hHeld (fun hHeld => ?_)
    clear hK K
    refine norm_ (a' := ?_) ?_ ?_
    rotate_left
    · show Act.put _ (some 187) _ = _
      simp only [Act.put, List.setIfInBounds_toArray, List.set_cons_zero, List.set_cons_succ, i64_w, i32_w]
      rfl
    refine pure_ (i := 14) (N := some 188) (v := undef) (a' := ?_) #[true, true, true, true, true, true, true, true, true, true, true, true, true, true, true, false] rfl rfl (any_of HT_.out (by kernel_rfl)) (fun _ _ _ h => hQ _ _ _ _ _ h) (Or.inr ⟨by rfl, rfl⟩) ?_ ?_
    rotate_left
    · simp only [Act.put, List.setIfInBounds_toArray, List.set_cons_zero, List.set_cons_succ, i64_w, i32_w]
      rfl
    refine pure_ (i := 15) (N := some 189) (v := ?_) (a' := ?_) #[true, true, true, true, true, true, true, true, true, true, true, true, true, true, true, true] rfl rfl (any_of HT_.out (by kernel_rfl)) (fun _ _ _ h => hQ _ _ _ _ _ h) (Or.inl ⟨by rfl, ?_⟩) ?_ ?_
    rotate_left
    · intro w'
      go_simp
      with_reducible rfl
    rotate_left
    · simp only [Act.put, List.setIfInBounds_toArray, List.set_cons_zero, List.set_cons_succ, i64_w, i32_w]
      rfl
    refine done_ (done_of HT_.out (by kernel_rfl)) ?_
    go_wp2
    refine HKK.out ?_
    exact ⟨rfl, ⟨hHeld⟩⟩
  | false =>
    replace HST := Aside0.mk (HST.out rfl)
    have k7 : wrap64 ((i : Int) + 1) = (i : Int) + 1 := by unfold wrap64; omega
    have k8 : IntKind.i64.wrap ((i : Int) + 1) = (i : Int) + 1 := IntWalk.i64_in _ (by omega)
    have z1 : ((0 : Int) ≤ (i : Int) + 1) = True := eq_true (by omega)
    have z2 : ((i : Int) + 1 ≤ (cA : Int)) = True := eq_true (by omega)
    have z3 : ((i : Int) + 1 ≤ (cB : Int)) = True := eq_true (by omega)
    have z4 : (cA = i) = False := eq_false (by omega)
    have z5 : (cB = i) = False := eq_false (by omega)
    refine start_ (n := 16) (S := fun w' => Below wr.heap.size wr w') (ds := []) #[false, false, false, false, false, false, false, false, false, false, false, false, false, false, false, false] (by kernel_rfl) rfl rfl (Below.refl _ _).drew (fun hHeld => ?_)
    refine with_tabW fvT.tab23 fvT.bits23 (fun HT_ HW_ => ?_)
    generalize wr.drew = wd at hHeld ⊢
    refine pure_ (i := 0) (N := some 174) (v := ?_) (a' := ?_) #[true, false, false, false, false, false, false, false, false, false, false, false, false, false, false, false] rfl rfl (any_of HT_.out (by kernel_rfl)) (fun _ _ _ h => hQ _ _ _ _ _ h) (Or.inl ⟨by rfl, ?_⟩) ?_ ?_
    rotate_left
    · intro w'
      go_simp
      with_reducible rfl
    rotate_left
    · simp only [Act.put, List.setIfInBounds_toArray, List.set_cons_zero, List.set_cons_succ, i64_w, i32_w]
      rfl
    refine pure_ (i := 1) (N := some 175) (v := ?_) (a' := ?_) #[true, true, false, false, false, false, false, false, false, false, false, false, false, false, false, false] rfl rfl (any_of HT_.out (by kernel_rfl)) (fun _ _ _ h => hQ _ _ _ _ _ h) (Or.inl ⟨by rfl, ?_⟩) ?_ ?_
    rotate_left
    · intro w'
      go_simp
      with_reducible rfl
    rotate_left
    · simp only [Act.put, List.setIfInBounds_toArray, List.set_cons_zero, List.set_cons_succ, i64_w, i32_w]
      rfl
    refine pure_ (i := 2) (N := some 176) (v := ?_) (a' := ?_) #[true, true, true, false, false, false, false, false, false, false, false, false, false, false, false, false] rfl rfl (any_of HT_.out (by kernel_rfl)) (fun _ _ _ h => hQ _ _ _ _ _ h) (Or.inl ⟨by rfl, ?_⟩) ?_ ?_
    rotate_left
    · intro w'
      go_simp
      with_reducible rfl
    rotate_left
    · simp only [Act.put, List.setIfInBounds_toArray, List.set_cons_zero, List.set_cons_succ, i64_w, i32_w]
      rfl
    refine pure_ (i := 3) (N := some 177) (v := ?_) (a' := ?_) #[true, true, true, true, false, false, false, false, false, false, false, false, false, false, false, false] rfl rfl (any_of HT_.out (by kernel_rfl)) (fun _ _ _ h => hQ _ _ _ _ _ h) (Or.inl ⟨by rfl, ?_⟩) ?_ ?_
    rotate_left
    · intro w'
      go_simp
      with_reducible rfl
    rotate_left
    · simp only [Act.put, List.setIfInBounds_toArray, List.set_cons_zero, List.set_cons_succ, i64_w, i32_w]
      rfl
    refine pure_ (i := 4) (N := some 178) (v := ?_) (a' := ?_) #[true, true, true, true, true, false, false, false, false, false, false, false, false, false, false, false] rfl rfl (any_of HT_.out (by kernel_rfl)) (fun _ _ _ h => hQ _ _ _ _ _ h) (Or.inl ⟨by rfl, ?_⟩) ?_ ?_
    rotate_left
    · intro w'
      go_simp
      with_reducible rfl
    rotate_left
    · simp only [Act.put, List.setIfInBounds_toArray, List.set_cons_zero, List.set_cons_succ, i64_w, i32_w]
      rfl
    refine pure_ (i := 5) (N := some 179) (v := ?_) (a' := ?_) #[true, true, true, true, true, true, false, false, false, false, false, false, false, false, false, false] rfl rfl (any_of HT_.out (by kernel_rfl)) (fun _ _ _ h => hQ _ _ _ _ _ h) (Or.inl ⟨by rfl, ?_⟩) ?_ ?_
    rotate_left
    · intro w'
      go_simp
      with_reducible rfl
    rotate_left
    · simp only [Act.put, List.setIfInBounds_toArray, List.set_cons_zero, List.set_cons_succ, i64_w, i32_w]
      rfl
    refine pure_ (i := 6) (N := some 180) (v := ?_) (a' := ?_) #[true, true, true, true, true, true, true, false, false, false, false, false, false, false, false, false] rfl rfl (any_of HT_.out (by kernel_rfl)) (fun _ _ _ h => hQ _ _ _ _ _ h) (Or.inl ⟨by rfl, ?_⟩) ?_ ?_
    rotate_left
    · intro w'
      go_simp
      with_reducible rfl
    rotate_left
    · simp only [Act.put, List.setIfInBounds_toArray, List.set_cons_zero, List.set_cons_succ, i64_w, i32_w]
      rfl
    refine pure_ (i := 7) (N := some 181) (v := ?_) (a' := ?_) #[true, true, true, true, true, true, true, true, false, false, false, false, false, false, false, false] rfl rfl (any_of HT_.out (by kernel_rfl)) (fun _ _ _ h => hQ _ _ _ _ _ h) (Or.inl ⟨by rfl, ?_⟩) ?_ ?_
    rotate_left
    · intro w'
      go_simp
      with_reducible rfl
    rotate_left
    · simp only [Act.put, List.setIfInBounds_toArray, List.set_cons_zero, List.set_cons_succ, i64_w, i32_w]
      rfl
    refine pure_ (i := 8) (N := some 182) (v := ?_) (a' := ?_) #[true, true, true, true, true, true, true, true, true, false, false, false, false, false, false, false] rfl rfl (any_of HT_.out (by kernel_rfl)) (fun _ _ _ h => hQ _ _ _ _ _ h) (Or.inl ⟨by rfl, ?_⟩) ?_ ?_
    rotate_left
    · intro w'
      go_simp
      with_reducible rfl
    rotate_left
    · simp only [Act.put, List.setIfInBounds_toArray, List.set_cons_zero, List.set_cons_succ, i64_w, i32_w]
      rfl
    refine pure_ (i := 9) (N := some 183) (v := ?_) (a' := ?_) #[true, true, true, true, true, true, true, true, true, true, false, false, false, false, false, false] rfl rfl (any_of HT_.out (by kernel_rfl)) (fun _ _ _ h => hQ _ _ _ _ _ h) (Or.inl ⟨by rfl, ?_⟩) ?_ ?_
    rotate_left
    · intro w'
      go_simp
      with_reducible rfl
    rotate_left
    · simp only [Act.put, List.setIfInBounds_toArray, List.set_cons_zero, List.set_cons_succ, i64_w, i32_w]
      rfl
    refine pure_ (i := 10) (N := some 184) (v := ?_) (a' := ?_) #[true, true, true, true, true, true, true, true, true, true, true, false, false, false, false, false] rfl rfl (any_of HT_.out (by kernel_rfl)) (fun _ _ _ h => hQ _ _ _ _ _ h) (Or.inl ⟨by rfl, ?_⟩) ?_ ?_
    rotate_left
    · intro w'
      go_simp
      with_reducible rfl
    rotate_left
    · simp only [Act.put, List.setIfInBounds_toArray, List.set_cons_zero, List.set_cons_succ, i64_w, i32_w]
      rfl
    refine pure_ (i := 11) (N := some 185) (v := ?_) (a' := ?_) #[true, true, true, true, true, true, true, true, true, true, true, true, false, false, false, false] rfl rfl (any_of HT_.out (by kernel_rfl)) (fun _ _ _ h => hQ _ _ _ _ _ h) (Or.inl ⟨by rfl, ?_⟩) ?_ ?_
    rotate_left
    · intro w'
      go_simp
      with_reducible rfl
    rotate_left
    · simp only [Act.put, List.setIfInBounds_toArray, List.set_cons_zero, List.set_cons_succ, i64_w, i32_w]
      rfl
    refine pure_ (i := 12) (N := some 186) (v := ?_) (a' := ?_) #[true, true, true, true, true, true, true, true, true, true, true, true, true, false, false, false] rfl rfl (any_of HT_.out (by kernel_rfl)) (fun _ _ _ h => hQ _ _ _ _ _ h) (Or.inl ⟨by rfl, ?_⟩) ?_ ?_
    rotate_left
    · intro w'
      go_simp
      with_reducible rfl
    rotate_left
    · simp only [Act.put, List.setIfInBounds_toArray, List.set_cons_zero, List.set_cons_succ, i64_w, i32_w]
      rfl
    refine one_ (i := 13) (N := some 187) #[true, true, true, true, true, true, true, true, true, true, true, true, true, true, false, false] rfl rfl (one_of HT_.out (by kernel_rfl)) (by decide) (fun K hK => ?_)
    refine goes_ Try.func20 (by kernel_rfl) rfl #[.slice (some (ad.add (i * 3))) 1 (cA - i), .slice (some (ae.add (i * 3))) 1 (cB - i)] (by rfl) rfl rfl (by (try simp only [List.map_toArray, List.map_cons, List.map_nil]); first | done | rfl) ?_
    with_reducible refine (HST.out _ hHeld).mono ?_
    rintro e w23 ⟨rfl, hb⟩
    refine ⟨_, rfl, ?_⟩
    replace hHeld := below_step hHeld hb
    clear hb
    refine hK.out _ _ hHeld (fun hHeld => ?_)
    clear hK K
    refine norm_ (a' := ?_) ?_ ?_
    rotate_left
    · show Act.put _ (some 187) _ = _
      simp only [Act.put, List.setIfInBounds_toArray, List.set_cons_zero, List.set_cons_succ, i64_w, i32_w]
      rfl
    refine pure_ (i := 14) (N := some 188) (v := ?_) (a' := ?_) #[true, true, true, true, true, true, true, true, true, true, true, true, true, true, true, false] rfl rfl (any_of HT_.out (by kernel_rfl)) (fun _ _ _ h => hQ _ _ _ _ _ h) (Or.inl ⟨by rfl, ?_⟩) ?_ ?_
    rotate_left
    · intro w'
      go_simp
      with_reducible rfl
    rotate_left
    · simp only [Act.put, List.setIfInBounds_toArray, List.set_cons_zero, List.set_cons_succ, i64_w, i32_w]
      rfl
    refine pure_ (i := 15) (N := some 189) (v := ?_) (a' := ?_) #[true, true, true, true, true, true, true, true, true, true, true, true, true, true, true, true] rfl rfl (any_of HT_.out (by kernel_rfl)) (fun _ _ _ h => hQ _ _ _ _ _ h) (Or.inl ⟨by rfl, ?_⟩) ?_ ?_
    rotate_left
    · intro w'
      go_simp
      with_reducible rfl
    rotate_left
    · simp only [Act.put, List.setIfInBounds_toArray, List.set_cons_zero, List.set_cons_succ, i64_w, i32_w]
      rfl
    refine done_ (done_of HT_.out (by kernel_rfl)) ?_
    clear z1 z2 z3 z4 z5 k7 k8 HST
    go_wp2
    refine HKK.out ?_
    exact ⟨rfl, ⟨hHeld⟩⟩
end Go.Proofs.Ytdadnapfecmmdaa.P
