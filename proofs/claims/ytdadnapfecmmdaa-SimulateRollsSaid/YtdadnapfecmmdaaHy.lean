/- simulate.Traces and simulate.Truth. -/
import Derived.Test.YtdadnapfecmmdaaHx
namespace Go.Proofs.Ytdadnapfecmmdaa.P
set_option linter.unusedVariables false
set_option linter.unusedSimpArgs false
open Go.RowKit Go.Proofs.YtdadnapfecmmdaaW.PrintWords Go.Proofs.YtdadnapfecmmdaaW.PrintLast Go.Proofs.YtdadnapfecmmdaaW.PrintMore
open Go.Proofs.Ytdadnapfecmmdaa.Hm
theorem TsOut.base {b b' : Nat} {w' : World} {ts : List Tr} {v : Value} (h : TsOut b w' ts v) (hb : b' ≤ b) : TsOut b' w' ts v := by
  obtain ⟨xs, h1, h2, h3⟩ := h
  exact ⟨xs, h1, own_base h2 hb, fun x hx => own_base (h3 x hx) hb⟩
set_option maxHeartbeats 4000000 in
theorem Traces_ok (n k : Nat) (c : Cfg) (p : CfgAt) (w : World) (ts : List Tr) (hR : CfgR w p c) (hck : ckAll k c = some 0) (h : tracesV n c (shiftSp c.off) = some ts) :
    Calls Try.prog 13 #[c.val p] w fun e w' => ∃ v, e = .returned (.tuple #[v, .int .i64 0]) ∧ TsOut w.heap.size w' ts v ∧ Below w.heap.size w w' := by
  have HR := Aside0.mk hR
  have HCK := Aside0.mk hck
  have HA := Aside0.mk h
  clear hR hck h
  obtain ⟨A1, c1, A2, c2, A3, c3, A4, c4⟩ := p
  go_enter Try.func13, Try.ntmps13
  go_wp2_with fail
  have hb := below_alloc (Below.refl w.heap.size w) (.cells (c.cells ⟨A1, c1, A2, c2, A3, c3, A4, c4⟩) 31)
  have hr1 := HR.out.below hb
  have hn := blk_new w (.cells (c.cells ⟨A1, c1, A2, c2, A3, c3, A4, c4⟩) 31)
  have hsh := traces_shows (w.alloc (.cells (c.cells ⟨A1, c1, A2, c2, A3, c3, A4, c4⟩) 31)) c ⟨A1, c1, A2, c2, A3, c3, A4, c4⟩ w.heap.size hr1
  refine (traces_calls n k c ⟨A1, c1, A2, c2, A3, c3, A4, c4⟩ _ 37 #[pv w.heap.size] (shiftSp c.off) ts hr1 ⟨hsh.1, fun W r cp b j l hj hok hB hbb hbW ho => hsh.2 W r cp b j l hj (blk_below hn hok) hB hbb hbW ho⟩ HCK.out HA.out).mono ?_
  rintro e w1 ⟨v, rfl, ht, hb1⟩
  have HT := Aside0.mk (ht.base hb.size)
  have HB := Aside0.mk (below_step hb hb1)
  clear ht hb1 hsh hn hr1 hb
  go_wp2_with fail
  refine bodyPost_ret (results_tmp2 rfl _ _ _) rfl ?_
  exact ⟨v, by rfl, HT.out, HB.out⟩
set_option maxHeartbeats 4000000 in
theorem Traces_err (k : Nat) (c : Cfg) (p : CfgAt) (w : World) (r : Int) (hR : CfgR w p c) (hck : ckAll k c = some r) (hr : r ≠ 0) :
    Calls Try.prog 13 #[c.val p] w fun e w' => e = .returned (.tuple #[.slice none 0 0, .int .i64 r]) ∧ Below w.heap.size w w' := by
  have HR := Aside0.mk hR
  have HCK := Aside0.mk hck
  clear hR hck
  obtain ⟨A1, c1, A2, c2, A3, c3, A4, c4⟩ := p
  go_enter Try.func13, Try.ntmps13
  go_wp2_with fail
  have hb := below_alloc (Below.refl w.heap.size w) (.cells (c.cells ⟨A1, c1, A2, c2, A3, c3, A4, c4⟩) 31)
  refine (traces_err k c ⟨A1, c1, A2, c2, A3, c3, A4, c4⟩ _ _ r (HR.out.below hb) HCK.out hr).mono ?_
  rintro e w1 ⟨rfl, hb1⟩
  have HB := Aside0.mk (below_step hb hb1)
  clear hb1 hb
  go_wp2_with fail
  refine bodyPost_ret (results_tmp2 rfl _ _ _) rfl ?_
  exact ⟨by rfl, HB.out⟩
set_option maxHeartbeats 4000000 in
theorem Truth_ok (n k : Nat) (c : Cfg) (p : CfgAt) (w : World) (ts : List Tr) (hR : CfgR w p c) (hck : ckAll k c = some 0) (h : tracesV n c id = some ts) :
    Calls Try.prog 16 #[c.val p] w fun e w' => ∃ v, e = .returned (.tuple #[v, .int .i64 0]) ∧ TsOut w.heap.size w' ts v ∧ Below w.heap.size w w' := by
  have HR := Aside0.mk hR
  have HCK := Aside0.mk hck
  have HA := Aside0.mk h
  clear hR hck h
  obtain ⟨A1, c1, A2, c2, A3, c3, A4, c4⟩ := p
  go_enter Try.func16, Try.ntmps16
  go_wp2_with fail
  have hb := below_alloc (Below.refl w.heap.size w) (.cells (c.cells ⟨A1, c1, A2, c2, A3, c3, A4, c4⟩) 31)
  have hr1 := HR.out.below hb
  have hsh := truth_shows (w.alloc (.cells (c.cells ⟨A1, c1, A2, c2, A3, c3, A4, c4⟩) 31)).heap.size (w.alloc (.cells (c.cells ⟨A1, c1, A2, c2, A3, c3, A4, c4⟩) 31))
  refine (traces_calls n k c ⟨A1, c1, A2, c2, A3, c3, A4, c4⟩ _ 41 #[] id ts hr1 ⟨hsh.1, fun W r cp b j l hj _ hB hbb hbW ho => hsh.2 W r cp b j l hj trivial hB hbb hbW ho⟩ HCK.out HA.out).mono ?_
  rintro e w1 ⟨v, rfl, ht, hb1⟩
  have HT := Aside0.mk (ht.base hb.size)
  have HB := Aside0.mk (below_step hb hb1)
  clear ht hb1 hsh hr1 hb
  go_wp2_with fail
  refine bodyPost_ret (results_tmp2 rfl _ _ _) rfl ?_
  exact ⟨v, by rfl, HT.out, HB.out⟩
set_option maxHeartbeats 4000000 in
theorem Truth_err (k : Nat) (c : Cfg) (p : CfgAt) (w : World) (r : Int) (hR : CfgR w p c) (hck : ckAll k c = some r) (hr : r ≠ 0) :
    Calls Try.prog 16 #[c.val p] w fun e w' => e = .returned (.tuple #[.slice none 0 0, .int .i64 r]) ∧ Below w.heap.size w w' := by
  have HR := Aside0.mk hR
  have HCK := Aside0.mk hck
  clear hR hck
  obtain ⟨A1, c1, A2, c2, A3, c3, A4, c4⟩ := p
  go_enter Try.func16, Try.ntmps16
  go_wp2_with fail
  have hb := below_alloc (Below.refl w.heap.size w) (.cells (c.cells ⟨A1, c1, A2, c2, A3, c3, A4, c4⟩) 31)
  refine (traces_err k c ⟨A1, c1, A2, c2, A3, c3, A4, c4⟩ _ _ r (HR.out.below hb) HCK.out hr).mono ?_
  rintro e w1 ⟨rfl, hb1⟩
  have HB := Aside0.mk (below_step hb hb1)
  clear hb1 hb
  go_wp2_with fail
  refine bodyPost_ret (results_tmp2 rfl _ _ _) rfl ?_
  exact ⟨by rfl, HB.out⟩
end Go.Proofs.Ytdadnapfecmmdaa.P
