/- Own texts of a proof about layer 55's simulate (merged): Se, Sw. -/
import Derived.Test.YtdadnapfecmmdaaGreatXs18
import Derived.Test.YtdadnapfecmmdaaGreatXs2
import Derived.Test.YtdadnapfecmmdaaGreatXs20
import Derived.Test.YtdadnapfecmmdaaGreatXs21
import Derived.Test.YtdadnapfecmmdaaGreatXs9
import Derived.Deep.CutBlock
import Derived.Shelf.Abstract
namespace Go.Proofs.YtdadnapfecmmdaaGreat.P
set_option linter.unusedVariables false
set_option linter.unusedSimpArgs false
open Go.RowKit Go.Proofs.YtdadnapfecmmdaaGreatW.PrintWords Go.Proofs.YtdadnapfecmmdaaGreatW.PrintLast Go.Proofs.YtdadnapfecmmdaaGreatW.PrintMore
attribute [local go_sem] Oper.semAt_some
def frN (ag:Int) (l:List Sp) (k:Nat) (js:List Nat):List Fr:=js.foldl (fun acc j=>acc ++ [(⟨ag,(acc.length:Int),(l.drop (j * k)).take k⟩:Fr)]) []
theorem frN_snoc (ag:Int) (l:List Sp) (k:Nat) (js:List Nat) (j:Nat):frN ag l k (js ++ [j]) = frN ag l k js ++ [(⟨ag,((frN ag l k js).length:Int),(l.drop (j * k)).take k⟩:Fr)]:=by
 unfold frN
 rw [List.foldl_append]
 rfl
theorem frN_range (ag:Int) (l:List Sp) (k:Nat) (q:Nat):frN ag l k (List.range q) = (List.range q).map (fun j:Nat=>(⟨ag,(j:Int),(l.drop (j * k)).take k⟩:Fr)):=by
 induction q with
 | zero=>rfl
 | succ q ih=>
  rw [List.range_succ,frN_snoc,ih,List.map_append,List.length_map,List.length_range]
  rfl
theorem frs_range (ag:Int) (k:Nat) (hk:0 < k):∀ (q:Nat) (l:List Sp) (seq:Int),l.length ≤ q * k→(∀ j,j < q→j * k < l.length)→(List.range q).map (fun j:Nat=>(⟨ag,seq + (j:Int),(l.drop (j * k)).take k⟩:Fr)) = frs ag k seq l
 | 0,l,seq,h,_=>by
  obtain rfl:=List.eq_nil_of_length_eq_zero (by omega:l.length = 0)
  rw [frs_nil];rfl
 | q + 1,l,seq,h,h2=>by
  have h0:=h2 0 (by omega)
  have hl:l ≠ []:=fun e=>by subst e;simp at h0
  rw [frs_cons ag k seq l hl hk,← frs_range ag k hk q (l.drop k) (seq + 1) (by rw [List.length_drop,Nat.succ_mul] at *;omega) (fun j hj=>by
   have:=h2 (j + 1) (by omega)
   rw [Nat.succ_mul] at this
   rw [List.length_drop];omega)]
  rw [List.range_succ_eq_map,List.map_cons,List.map_map]
  congr 1
  ·simp
  ·refine List.map_congr_left fun j _=>?_
   simp only [Function.comp,List.drop_drop,Nat.succ_mul]
   have e1:seq + ((j + 1:Nat):Int) = seq + 1 + (j:Int):=by omega
   have e2:j * k + k = k + j * k:=Nat.add_comm _ _
   rw [Nat.succ_eq_add_one,e1,e2]
theorem frN_frs (ag:Int) (k:Nat) (hk:0 < k) (l:List Sp) (ys:List (CkI l.length k)) (q:Nat) (h1:l.length ≤ q * k) (h2:ys.map (·.1) = List.range q):frN ag l k (ys.map (·.1)) = frs ag k 0 l:=by
 rw [h2,frN_range,← frs_range ag k hk q l 0 h1 (fun j hj=>by
  have hm:j ∈ ys.map (·.1):=by rw [h2];exact List.mem_range.mpr hj
  obtain ⟨x,_,rfl⟩:=List.mem_map.mp hm
  exact x.2)]
 refine List.map_congr_left fun j _=>?_
 rw [Int.zero_add]
theorem spc_part (l:List Sp) (j k i:Nat) (u:Value) (h:(spc ((l.drop j).take k))[i]? = some u):(spc l)[j * 14 + i]? = some u:=by
 have e:∀ (m:List Sp) (j:Nat),spc (m.drop j) = (spc m).drop (j * 14):=by
  intro m
  induction m with
  | nil=>intro j;simp [spc]
  | cons a r ih=>
   intro j
   cases j with
   | zero=>simp
   | succ j=>
    rw [List.drop_succ_cons,ih,show spc (a::r) = a.cells ++ spc r from rfl,show (j + 1) * 14 = a.cells.length + j * 14 from by rw [Sp.cells_len];omega,List.drop_append]
    simp
 have e2:∀ (m:List Sp) (k:Nat),spc (m.take k) = (spc m).take (k * 14):=by
  intro m
  induction m with
  | nil=>intro k;simp [spc]
  | cons a r ih=>
   intro k
   cases k with
   | zero=>simp [spc]
   | succ k=>
    rw [List.take_succ_cons,show spc (a::r.take k) = a.cells ++ spc (r.take k) from rfl,ih,show spc (a::r) = a.cells ++ spc r from rfl,show (k + 1) * 14 = a.cells.length + k * 14 from by rw [Sp.cells_len];omega,List.take_append,Nat.add_sub_cancel_left,List.take_of_length_le (l:=a.cells) (by omega)]
 rw [e2,e,List.getElem?_take] at h
 split at h
 ·rw [List.getElem?_drop] at h;exact h
 ·cases h
structure CkSt (w2 W:World) (gO gC gS Bs Bn base b top:Nat) (ds:List Deferred) (sv:Value) (ag:Int) (k:Nat) (l:List Sp) (xs:List (Fr × Value)) (A:Option Addr) (cp:Nat) (seq:Int):Prop where
 bel:Below gO w2 W
 box:W.heap[gO]? = some (.cells #[.slice A xs.length cp] 38 (0,0))
 row:W.ownsRow base 81 4 (.slice A xs.length cp) xs.length (frc xs)
 fs:RowsB W base W.heap.size (xs.map fun x=>(x.1.l,x.2))
 c:W.heap[gC]? = some (.cells #[.int .i64 ag] 3 (0,0))
 s:W.heap[gS]? = some (.cells #[.int .i64 seq] 3 (0,0))
 q0:W.heap[Bs]? = some (.cells #[sv] 68 (0,0))
 q1:W.heap[Bn]? = some (.cells #[.int .i64 (k:Int)] 3 (0,0))
 sp:0 < l.length→W.ownsRow base 74 14 sv l.length (spc l)
 mark:Marks b top ds W
 ord:gO < gC∧gC < gS∧gS < Bs∧Bs < Bn∧gO ≤ base∧base ≤ W.heap.size
section
variable {w2 W W1:World} {gO gC gS Bs Bn base b top:Nat} {ds:List Deferred} {sv:Value} {ag:Int} {k:Nat} {l:List Sp} {xs:List (Fr × Value)} {A:Option Addr} {cp:Nat} {seq:Int}
theorem CkSt.below (h:CkSt w2 W gO gC gS Bs Bn base b top ds sv ag k l xs A cp seq) (hb:Below W.heap.size W W1):CkSt w2 W1 gO gC gS Bs Bn base b top ds sv ag k l xs A cp seq:=
 ⟨h.bel.trans (hb.mono (Nat.le_of_lt (blk_lt h.box))),blk_below h.box hb,pw_own_below h.row hb,(h.fs.below hb).mono hb.size,blk_below h.c hb,blk_below h.s hb,blk_below h.q0 hb,blk_below h.q1 hb,fun hl=>pw_own_below (h.sp hl) hb,h.mark.keep (fun D _ hD=>(hb.block D (blk_lt hD)).trans hD),⟨h.ord.1,h.ord.2.1,h.ord.2.2.1,h.ord.2.2.2.1,h.ord.2.2.2.2.1,Nat.le_trans h.ord.2.2.2.2.2 hb.size⟩⟩
theorem cells_turn {W W':World} {row:Option Nat} (hg:W.grownBy W' row) (hr:∀ r,row = some r→∃ o:Obj,W.heap[r]? = some o∧o.isCells = false) {g:Nat} {cs:Array Value} {t:TypeId} {fr:Nat × Nat} (h:W.heap[g]? = some (.cells cs t fr)):W'.heap[g]? = some (.cells cs t fr):=
 (hg.block g (blk_lt h) (fun e=>by
  obtain ⟨o,h1,h2⟩:=hr g e.symm
  rw [h] at h1
  injection h1 with h1
  subst h1
  cases h2)).trans h
theorem own_turn {W W':World} {row:Option Nat} (hg:W.grownBy W' row) (hr:∀ r,row = some r→∃ o:Obj,W.heap[r]? = some o∧o.isCells = false) {base n sz:Nat} {e:TypeId} {v:Value} {ys:List Value} (h:W.ownsRow base e sz v n ys):W'.ownsRow base e sz v n ys:=
 own_keep h (fun g cur hgc=>(cells_turn hg hr hgc).trans hgc.symm)
theorem CkSt.turn (h:CkSt w2 W gO gC gS Bs Bn base b top ds sv ag k l xs A cp seq) {row:Option Nat} (hg:W.grownBy W1 row) {B:Nat} (hB:gO ≤ B) (hB2:top ≤ B) (hr:∀ r,row = some r→B ≤ r∧∃ o:Obj,W.heap[r]? = some o∧o.isCells = false):CkSt w2 W1 gO gC gS Bs Bn base b top ds sv ag k l xs A cp seq:=by
 have hr':=fun r e=>(hr r e).2
 refine ⟨h.bel.grown hg (Nat.le_of_lt (blk_lt h.box)) (fun r e=>Nat.le_trans hB (hr r e).1),cells_turn hg hr' h.box,own_turn hg hr' h.row,fun x hx=>⟨own_turn hg hr' (h.fs x hx).1,fun k hk=>Nat.lt_of_lt_of_le ((h.fs x hx).2 k hk) hg.size⟩,cells_turn hg hr' h.c,cells_turn hg hr' h.s,cells_turn hg hr' h.q0,cells_turn hg hr' h.q1,fun hl=>own_turn hg hr' (h.sp hl),?_,⟨h.ord.1,h.ord.2.1,h.ord.2.2.1,h.ord.2.2.2.1,h.ord.2.2.2.2.1,Nat.le_trans h.ord.2.2.2.2.2 hg.size⟩⟩
 have:∀ (ds:List Deferred) (t:Nat),t ≤ B→Marks b t ds W→Marks b t ds W1:=by
  intro ds
  induction ds with
  | nil=>intro t _ _;trivial
  | cons d ds ih=>
   rintro t ht ⟨D,h1,h2,h3,h4,h5⟩
   refine ⟨D,h1,h2,h3,(hg.block D (blk_lt h4) (fun e=>?_)).trans h4,ih D (by omega) h5⟩
   have:=(hr D e.symm).1
   omega
 exact this ds top hB2 h.mark
theorem keeps_below {W W':World} (hb:Below W.heap.size W W'):KeepsOthers W W':=⟨hb.size,fun k o hk _=>(hb.block k (blk_lt hk)).trans hk⟩
theorem keeps_row {W W':World} {base n sz:Nat} {e:TypeId} {v:Value} {ys:List Value} (ho:W.ownsRow base e sz v n ys) (hg:W.grownBy W' v.ownBlock):KeepsOthers W W':=KeepsOthers.of_grownBy hg (fun j o hj ho2=>by
 obtain ⟨cs,h⟩:=own_typed ho j hj
 rw [h] at ho2
 injection ho2 with ho2
 subst ho2
 rfl)
theorem own_apart {W W':World} {b1 b2 n1 n2 s1 s2:Nat} {e1 e2:TypeId} {v1 v2:Value} {y1 y2:List Value} (h1:W.ownsRow b1 e1 s1 v1 n1 y1) (h2:W.ownsRow b2 e2 s2 v2 n2 y2) (hne:e1 ≠ e2) (hg:W.grownBy W' v2.ownBlock):W'.ownsRow b1 e1 s1 v1 n1 y1:=
 own_other h1 hg (own_type_ne h1 h2 hne)
theorem CkSt.push (h:CkSt w2 W gO gC gS Bs Bn base b top ds sv ag k l xs A cp seq) {vf:Value} {p:List Sp} (hvf:W.ownsRow base 74 14 vf p.length (spc p)) {A1:Option Addr} {c1:Nat} (ho:W1.ownsRow base 81 4 (.slice A1 (xs.length + 1) c1) (xs.length + 1) (frc xs ++ [.int .i64 ag,.int .i64 seq,vf,.slice none 0 0])) (hg:W.grownBy W1 (Value.slice A xs.length cp).ownBlock) (hb:Below base W W1):
  CkSt w2 (W1.setCell ⟨gO,0,none⟩ (.slice A1 (xs.length + 1) c1)) gO gC gS Bs Bn base b top ds sv ag k l (xs ++ [((⟨ag,seq,p⟩:Fr),vf)]) A1 c1 seq:=by
 obtain ⟨o1,o2,o3,o4,o5,o6⟩:=h.ord
 have hsz:W.heap.size ≤ W1.heap.size:=hg.size
 have hbox:=blk_grown h.box hg (own_ne h.row h.box (by decide))
 have hc:=blk_grown h.c hg (own_ne h.row h.c (by decide))
 have hs:=blk_grown h.s hg (own_ne h.row h.s (by decide))
 have hq0:=blk_grown h.q0 hg (own_ne h.row h.q0 (by decide))
 have hq1:=blk_grown h.q1 hg (own_ne h.row h.q1 (by decide))
 have hl:(xs ++ [((⟨ag,seq,p⟩:Fr),vf)]).length = xs.length + 1:=by rw [List.length_append];rfl
 have hfs:=(((h.fs.other h.row hg).mono hsz).snoc (own_apart hvf h.row (by decide) hg) (fun k hk=>own_lt (own_apart hvf h.row (by decide) hg) k hk)).set hbox (by decide) 0 (.slice A1 (xs.length + 1) c1)
 have hK:=keeps_row h.row hg
 refine ⟨((h.bel.trans (hb.mono o5)).setCell (Nat.le_refl _) _),?_,?_,?_,?_,?_,?_,?_,fun hp=>own_setCell (own_apart (h.sp hp) h.row (by decide) hg) (own_ne (own_apart (h.sp hp) h.row (by decide) hg) hbox (by decide)) _,?_,⟨o1,o2,o3,o4,o5,by rw [World.size_setCell];omega⟩⟩
 ·rw [hl];have:=blk_set hbox 0 (.slice A1 (xs.length + 1) c1);simpa using this
 ·rw [hl,frc_snoc]
  exact own_setCell ho (own_ne ho hbox (by decide)) _
 ·rw [List.map_append,World.size_setCell];exact hfs
 ·exact blk_far hc (by show gC ≠ gO;omega) _
 ·exact blk_far hs (by show gS ≠ gO;omega) _
 ·exact blk_far hq0 (by show Bs ≠ gO;omega) _
 ·exact blk_far hq1 (by show Bn ≠ gO;omega) _
 ·exact h.mark.keep (fun D _ hD=>(hK.trans (KeepsOthers.setCell _ _ _)).same D _ hD rfl)
theorem CkSt.next (h:CkSt w2 W gO gC gS Bs Bn base b top ds sv ag k l xs A cp seq) (seq':Int):CkSt w2 (W.setCell ⟨gS,0,none⟩ (.int .i64 seq')) gO gC gS Bs Bn base b top ds sv ag k l xs A cp seq':=by
 obtain ⟨o1,o2,o3,o4,o5,o6⟩:=h.ord
 refine ⟨h.bel.setCell (p:=⟨gS,0,none⟩) (by show gO ≤ gS;omega) _,blk_far h.box (by show gO ≠ gS;omega) _,own_setCell h.row (own_ne h.row h.s (by decide)) _,?_,blk_far h.c (by show gC ≠ gS;omega) _,?_,blk_far h.q0 (by show Bs ≠ gS;omega) _,blk_far h.q1 (by show Bn ≠ gS;omega) _,fun hp=>own_setCell (h.sp hp) (own_ne (h.sp hp) h.s (by decide)) _,h.mark.keep (fun D _ hD=>(KeepsOthers.setCell _ _ _).same D _ hD rfl),⟨o1,o2,o3,o4,o5,by rw [World.size_setCell];exact o6⟩⟩
 ·rw [World.size_setCell];exact h.fs.set h.s (by decide) 0 _
 ·have:=blk_set h.s 0 (.int .i64 seq');simpa using this
end
structure OtSt (w2 W:World) (gO base b:Nat) (ds:List Deferred) (xs:List (Fr × Value)) (A:Option Addr) (cp:Nat):Prop where
 bel:Below gO w2 W
 box:W.heap[gO]? = some (.cells #[.slice A xs.length cp] 38 (0,0))
 row:W.ownsRow base 81 4 (.slice A xs.length cp) xs.length (frc xs)
 fs:RowsB W base W.heap.size (xs.map fun x=>(x.1.l,x.2))
 mark:Marks b W.heap.size ds W
 ord:b ≤ gO∧gO ≤ base∧base ≤ W.heap.size
theorem OtSt.start {w2 Wr W:World} {gO gC gS Bs Bn base b:Nat} {ds:List Deferred} {sv:Value} {ag:Int} {k:Nat} {l:List Sp} {xs:List (Fr × Value)} {A:Option Addr} {cp:Nat} (h:OtSt w2 Wr gO base b ds xs A cp) (hb:Below Wr.heap.size Wr W)
  (hc:W.heap[gC]? = some (.cells #[.int .i64 ag] 3 (0,0))) (hs:W.heap[gS]? = some (.cells #[.int .i64 0] 3 (0,0))) (hq0:W.heap[Bs]? = some (.cells #[sv] 68 (0,0))) (hq1:W.heap[Bn]? = some (.cells #[.int .i64 (k:Int)] 3 (0,0))) (hsp:W.ownsRow Wr.heap.size 74 14 sv l.length (spc l))
  (h1:Wr.heap.size ≤ gC) (h2:gC < gS) (h3:gS < Bs) (h4:Bs < Bn):CkSt w2 W gO gC gS Bs Bn base b Wr.heap.size ds sv ag k l xs A cp 0:=
 ⟨h.bel.trans (hb.mono (Nat.le_of_lt (blk_lt h.box))),blk_below h.box hb,pw_own_below h.row hb,(h.fs.below hb).mono hb.size,hc,hs,hq0,hq1,fun _=>own_base hsp h.ord.2.2,h.mark.keep (fun D _ hD=>(hb.block D (blk_lt hD)).trans hD),⟨Nat.lt_of_lt_of_le (blk_lt h.box) h1,h2,h3,h4,h.ord.2.1,Nat.le_trans h.ord.2.2 hb.size⟩⟩
theorem CkSt.fin {w2 W0 W:World} {gO gC gS Bs Bn base b top D:Nat} {ds:List Deferred} {sv:Value} {ag:Int} {k:Nat} {l:List Sp} {xs:List (Fr × Value)} {A:Option Addr} {cp:Nat} {seq:Int} (h:CkSt w2 W gO gC gS Bs Bn base b top ds sv ag k l xs A cp seq) (ht:top ≤ W0.heap.size) (hbt:b ≤ gO) (hg:gO < top) (hD:W0.heap.size ≤ D) (hdf:W.heap[D]? = some (.deferred (some []))):
  OtSt w2 W gO base b ({ target:=.collected D,args:=#[] }::ds) xs A cp:=
 ⟨h.bel,h.box,h.row,h.fs,⟨D,rfl,by omega,blk_lt hdf,hdf,h.mark.up (by omega)⟩,⟨hbt,h.ord.2.2.2.2.1,h.ord.2.2.2.2.2⟩⟩
theorem spans_snoc (l:List Sp) (s:Sp) (ag:Int):(l ++ [s]).filter (fun x=>x.clk == ag) = if s.clk = ag then l.filter (fun x=>x.clk == ag) ++ [s] else l.filter (fun x=>x.clk == ag):=by
 rw [List.filter_append]
 split
 ·rename_i h;rw [List.filter_cons_of_pos (by simpa using h)];rfl
 ·rename_i h;rw [List.filter_cons_of_neg (by simpa using h)];simp
def seT.T29:Bool × List (List Nat × List Nat):=(true,[([],[]),([],[]),([],[]),([],[]),([3],[3]),([1,2,4],[1,2,4]),([5],[5]),([0,6,4],[0,6]),([7,7,0,1,2,3,4,5,6,7],[7])])
def seT.B29:List Nat:=[0,0,0,0,8,30,62,127,255]
theorem seT.tab29:rtab .any (opsOf Tryz.f5 29) = seT.T29:=by kernel_rfl
theorem seT.bits29:waitsOk seT.T29.2 seT.B29 = true:=by kernel_rfl
def seB8:{ c:Code // blockFrom 8 (Tryz.f5.body.getD .skip) = some (Code.block 8 c) }:=⟨_,by rfl⟩
set_option maxHeartbeats 8000000 in
set_option maxRecDepth 100000 in
theorem se_chunk (w2 W0:World) (gO gC gS Bs Bn base b top r cap:Nat) (ds:List Deferred) (sv:Value) (ag:Int) (k:Nat) (l:List Sp) (xs0:List (Fr × Value)) (A0:Option Addr) (cp0:Nat)
  (hk:1 ≤ k) (hk2:k ≤ 64) (hl:l.length ≤ 2000000) (hx0:xs0.length ≤ 10000000) (HSV:Aside0 (0 < l.length→sv = .slice (some ⟨r,0,none⟩) l.length cap))
  (HS0:Aside0 (CkSt w2 W0 gO gC gS Bs Bn base b top ds sv ag k l xs0 A0 cp0 0)) (HTOP:Aside0 (top ≤ W0.heap.size))
  (HSQ:Aside0 (SeqStopsK Fence.wide 7 Tryz.prog 35 #[.pointer (some ⟨Bs,0,none⟩),.pointer (some ⟨Bn,0,none⟩)] (ckV r l.length k) (KpC Bs Bn) (fun ys=>∃ q,l.length ≤ q * k∧ys.map (·.1) = List.range q) (fun _=>True) (l.length + 1) W0))
  {q0 q1 q2 q3 q4 q5 q6 q7 q8 q10 q12 q13 q14 q15 q16 q18 q19 q20 q21 q22 q23 q24 q25 q26 q27 q28 q29 q30 q31 q32 q33 q34 q35 q36 q37 q38 q39 q40 q41 q42 q43 q44 q45 q46 q47 q48 q49 q50 q51 q52 q53 q54 q55 q56 q57 q58 q59 q60 q61 q62 q63 q64 q65 q66 q67 q68 q69 q70 q71 q72 q73 q74 q76 q77 q78 q79 q80 q81 q82 q83 q84 q85 q86 q87 q88:Value} (Q:Exit→Go.Act→World→Prop)
  (HKK:Aside0 (∀ D W',W0.heap.size ≤ D→W'.heap[D]? = some (.deferred (some []))→(∃ (xs:List (Fr × Value)) (A:Option Addr) (cp:Nat),xs.map (·.1) = xs0.map (·.1) ++ frs ag k 0 l∧CkSt w2 W' gO gC gS Bs Bn base b top ds sv ag k l xs A cp ((frs ag k 0 l).length:Int))→Q .normal { tmps:=List.toArray (q0::q1::q2::q3::q4::q5::q6::q7::q8::(.pointer (some ⟨gO,0,none⟩))::q10::(.pointer (some ⟨gC,0,none⟩))::q12::q13::q14::q15::q16::(.pointer (some ⟨gS,0,none⟩))::q18::q19::q20::q21::q22::q23::q24::q25::q26::q27::q28::q29::q30::q31::q32::q33::q34::q35::q36::q37::q38::q39::q40::q41::q42::q43::q44::q45::q46::q47::q48::q49::q50::q51::q52::q53::q54::q55::q56::q57::q58::q59::q60::q61::q62::q63::q64::q65::q66::q67::q68::q69::q70::q71::q72::q73::q74::(.func (.func 35) #[] #[.pointer (some ⟨Bs,0,none⟩),.pointer (some ⟨Bn,0,none⟩)])::q76::q77::q78::q79::q80::q81::q82::q83::q84::q85::q86::q87::q88::[]),defers:={ target:=.collected D,args:=#[] }::ds } W')):
  Code.wp Tryz.prog seB8.1 Q { tmps:=List.toArray (q0::q1::q2::q3::q4::q5::q6::q7::q8::(.pointer (some ⟨gO,0,none⟩))::q10::(.pointer (some ⟨gC,0,none⟩))::q12::q13::q14::q15::q16::(.pointer (some ⟨gS,0,none⟩))::q18::q19::q20::q21::q22::q23::q24::q25::q26::q27::q28::q29::q30::q31::q32::q33::q34::q35::q36::q37::q38::q39::q40::q41::q42::q43::q44::q45::q46::q47::q48::q49::q50::q51::q52::q53::q54::q55::q56::q57::q58::q59::q60::q61::q62::q63::q64::q65::q66::q67::q68::q69::q70::q71::q72::q73::q74::(.func (.func 35) #[] #[.pointer (some ⟨Bs,0,none⟩),.pointer (some ⟨Bn,0,none⟩)])::q76::q77::q78::q79::q80::q81::q82::q83::q84::q85::q86::q87::q88::[]),defers:=ds } W0:=by
 dsimp only [seB8]
 refine (wpIn_wide (n:=8)).1 ?_
 refine wpIn_rangeFunc_ownF (n:=8) (F:=Fence.wide) rfl (by omega) (gf:=35) (lb:=#[.pointer (some ⟨Bs,0,none⟩),.pointer (some ⟨Bn,0,none⟩)]) rfl trivial (Go.Proofs.enters_of Tryz.func35 (by kernel_rfl) rfl) HSQ.out ?hkt ?hkb (Below.refl _ _) (fun _=>rfl) (fun (pre:List (CkI l.length k)) W=>∃ (xs:List (Fr × Value)) (A:Option Addr) (cp:Nat),Aside0 (xs.map (·.1) = xs0.map (·.1) ++ frN ag l k (pre.map (·.1))∧(frN ag l k (pre.map (·.1))).length = pre.length)∧Aside0 (CkSt w2 W gO gC gS Bs Bn base b top ds sv ag k l xs A cp (pre.length:Int))) (fun _ _ _=>False) ?hI (fun _ _ _ _ _ hs _ _=>hs) ?h0 (fun x=>{ tmps:=List.toArray (q0::q1::q2::q3::q4::q5::q6::q7::q8::(.pointer (some ⟨gO,0,none⟩))::q10::(.pointer (some ⟨gC,0,none⟩))::q12::q13::q14::q15::q16::(.pointer (some ⟨gS,0,none⟩))::(.slice (some ⟨r,x.1 * k * 14,none⟩) (min k (l.length - x.1 * k)) (min k (l.length - x.1 * k)))::q19::q20::q21::q22::q23::q24::q25::q26::q27::q28::q29::q30::q31::q32::q33::q34::q35::q36::q37::q38::q39::q40::q41::q42::q43::q44::q45::q46::q47::q48::q49::q50::q51::q52::q53::q54::q55::q56::q57::q58::q59::q60::q61::q62::q63::q64::q65::q66::q67::q68::q69::q70::q71::q72::q73::q74::(.func (.func 35) #[] #[.pointer (some ⟨Bs,0,none⟩),.pointer (some ⟨Bn,0,none⟩)])::(.slice (some ⟨r,x.1 * k * 14,none⟩) (min k (l.length - x.1 * k)) (min k (l.length - x.1 * k)))::q77::q78::q79::q80::q81::q82::q83::q84::q85::q86::q87::q88::[]),defers:=[] }) ?assign ?body ?done ?stop
 case hkt=>exact fun h1 h2=>⟨h2.1.trans h1.1,h2.2.trans h1.2⟩
 case hkb=>
  intro W lb o o' hlb ho hcells _
  have h1:=blk_lt HS0.out.q0
  have h2:=blk_lt HS0.out.q1
  exact ⟨World.cell?_of_block (World.putObj_heap_other (by show Bs ≠ lb;omega)),World.cell?_of_block (World.putObj_heap_other (by show Bn ≠ lb;omega))⟩
 case hI=>
  rintro pre W W' row ⟨xs,A,cp,h1,h2⟩ hg hr
  exact ⟨xs,A,cp,h1,⟨h2.out.turn hg (Nat.le_of_lt (blk_lt HS0.out.box)) HTOP.out hr⟩⟩
 case h0=>exact ⟨xs0,A0,cp0,⟨by simp [frN],by simp [frN]⟩,HS0⟩
 case assign=>
  intro lb x W K hK
  unfold ckV
  gi_wp2
  exact hK
 case stop=>exact fun D c pre W _ _ h _=>h.elim
 case done=>
  rintro D ys W hD ⟨q,hq1,hq2⟩ ⟨xs,A,cp,h1,h2⟩ hdf
  have hfr:=frN_frs ag k hk l ys q hq1 hq2
  obtain ⟨h1a,h1b⟩:=h1.out
  rw [hfr] at h1a h1b
  exact HKK.out D W hD hdf ⟨xs,A,cp,h1a,by rw [h1b];exact h2.out⟩
 case body=>
  rintro lb pre x W ⟨xs,A,cp,HX,HS⟩ hlen
  have hxx:=x.2
  have hl0:0 < l.length:=by omega
  have hsv:=HSV.out hl0
  subst hsv
  have hxl:xs.length = xs0.length + pre.length:=by have:=congrArg List.length HX.out.1;rw [List.length_append,List.length_map,List.length_map,HX.out.2] at this;exact this
  have hxb:xs.length ≤ 12000001:=by omega
  clear hxl
  have HPL:Aside0 (((l.drop (x.1 * k)).take k).length = min k (l.length - x.1 * k)):=⟨by rw [List.length_take,List.length_drop]⟩
  have HSP:=Aside0.mk (HS.out.sp hl0)
  have HPC:Aside0 (∀ W':World,W'.ownsRow base 74 14 (.slice (some ⟨r,0,none⟩) l.length cap) l.length (spc l)→∀ i u,(spc ((l.drop (x.1 * k)).take k))[i]? = some u→W'.cell? ((⟨r,x.1 * k * 14,none⟩:Addr).add i) = some u):=⟨fun W' hW' i u hu=>by
   have h:=own_reads hW' _ u (spc_part l (x.1 * k) k i u hu)
   have e:(⟨r,x.1 * k * 14,none⟩:Addr).add i = ⟨r,x.1 * k * 14 + i,none⟩:=by
    unfold Addr.add
    split
    ·rename_i h0;subst h0;rfl
    ·rfl
   rw [e]
   exact h⟩
  have HNX:Aside0 (∀ vf:Value,(xs ++ [((⟨ag,(pre.length:Int),(l.drop (x.1 * k)).take k⟩:Fr),vf)]).map (·.1) = xs0.map (·.1) ++ frN ag l k ((pre ++ [x]).map (·.1))∧(frN ag l k ((pre ++ [x]).map (·.1))).length = (pre ++ [x]).length):=⟨fun vf=>by
   rw [List.map_append (l₁:=pre),List.map_cons,List.map_nil,frN_snoc,HX.out.2,List.map_append,HX.out.1,List.append_assoc,List.length_append,HX.out.2,List.length_append]
   exact ⟨rfl,rfl⟩⟩
  have hm0:0 < min k (l.length - x.1 * k):=by omega
  have hm1:min k (l.length - x.1 * k) ≤ 64:=by omega
  clear HX hxx
  generalize (l.drop (x.1 * k)).take k = p at HPL HPC HNX
  rw [← HPL.out] at hm0 hm1
  rw [← HPL.out]
  generalize x.1 * k * 14 = ofs at HPC ⊢
  clear HPL
  have g0:W.cell? ⟨gO,0,none⟩ = some (.slice A xs.length cp):=(blk_cell HS.out.box 0).trans rfl
  have g1:W.cell? ⟨gC,0,none⟩ = some (.int .i64 ag):=(blk_cell HS.out.c 0).trans rfl
  have g2:W.cell? ⟨gS,0,none⟩ = some (.int .i64 (pre.length:Int)):=(blk_cell HS.out.s 0).trans rfl
  gi_wp2_with fail
  have hsz0:p.length ≤ 1000:=by omega
  refine startIn_ (by kernel_rfl) (fun ⟨_,_,h⟩=>h) (k:=9) (S:=fun w'=>Below W.heap.size W w') (ds:=[7,8]) (bq 9 0) (by kernel_rfl) rfl rfl (Below.refl _ _).drew (fun hHeld=>?_)
  refine with_tabW seT.tab29 seT.bits29 (fun HT_ HW_=>?_)
  generalize W.drew = wd at hHeld ⊢
  refine tk_ 0 (some 77) (bq 9 1) HT_ HW_ rfl rfl hHeld ?_ (by intro w' hS;replace g0:=below_at hS g0;replace g1:=below_at hS g1;replace g2:=below_at hS g2;go_simp;with_reducible rfl)
  refine tk_ 1 (some 78) (bq 9 3) HT_ HW_ rfl rfl hHeld ?_ (by intro w' hS;replace g1:=below_at hS g1;replace g2:=below_at hS g2;go_simp;with_reducible rfl)
  refine tk_ 2 (some 79) (bq 9 7) HT_ HW_ rfl rfl hHeld ?_ (by intro w' hS;replace g2:=below_at hS g2;go_simp;with_reducible rfl)
  refine pu_ 3 (some 80) (bq 9 15) HT_ rfl rfl ?_
  refine one_ (i:=4) (N:=some 81) (bq 9 31) rfl rfl (one_of HT_.out (by kernel_rfl)) (by decide) (fun K hK=>?_)
  refine goes_ Tryz.func17 (by kernel_rfl) rfl #[.slice (some ⟨r,ofs,none⟩) p.length p.length] (by rfl) rfl rfl (by (try simp only [List.map_toArray,List.map_cons,List.map_nil]);first | done | rfl) ?_
  with_reducible refine (clone_own _ _ p _ (HPC.out _ (pw_own_below HSP.out hHeld)) hsz0).mono ?_
  rintro e wx ⟨vf,rfl,hvf,hb⟩
  refine ⟨_,rfl,?_⟩
  obtain ⟨Af,cf,rfl⟩:=own_slice hvf
  have hszd:=hHeld.size
  have HVF:=Aside0.mk (own_base hvf hszd)
  clear hvf
  replace hHeld:=below_step hHeld hb
  clear hb
  refine hK.out _ _ hHeld (fun hHeld=>?_)
  clear hK K
  refine norm_ (a':=?_) ?_ ?_
  rotate_left
  ·show Act.put _ (some 81) _ = _
   simp only [Act.put,List.setIfInBounds_toArray,List.set_cons_zero,List.set_cons_succ,i64_w,i32_w]
   rfl
  refine pu_ 5 (some 82) (bq 9 63) HT_ rfl rfl ?_
  refine one_ (i:=6) (N:=some 83) (bq 9 127) rfl rfl (one_of HT_.out (by kernel_rfl)) (by decide) (fun K hK=>?_)
  refine event_step (w1:=World.alloc wx (.cells #[.int .i64 ag,.int .i64 (pre.length:Int),.slice Af p.length cf,.slice none 0 0] 81)) (v:=.slice (some ⟨wx.heap.size,0,none⟩) 1 1) (by rfl) (by go_simp) ?_
  have hHeld0:=hHeld
  refine hK.out _ _ (below_alloc hHeld _) (fun _=>?_)
  clear hHeld
  have hHeld:=hHeld0
  clear hHeld0
  clear hK K
  refine norm_ (a':=?_) ?_ ?_
  rotate_left
  ·show Act.put _ (some 83) _ = _
   simp only [Act.put,List.setIfInBounds_toArray,List.set_cons_zero,List.set_cons_succ,i64_w,i32_w]
   rfl
  have HS8:=Aside0.mk (HS.out.below hHeld)
  have hbx:base ≤ wx.heap.size:=HS8.out.ord.2.2.2.2.2
  refine last_ (i:=7) (N:=some 84) (bq 9 255) rfl rfl (one_of HT_.out (by kernel_rfl)) (by decide) (fun K hK=>?_)
  refine step_append_cells (w0:=wx) base (by rfl) (.tmp 77) (.tmp 83) 38 81 _ 4 64 rfl Tryz.underlying38 info81 rfl (by decide) (by decide) (.slice A xs.length cp) xs.length (frc xs) [.int .i64 ag,.int .i64 (pre.length:Int),.slice Af p.length cf,.slice none 0 0] (by rfl) (by rfl) rfl ?c1 HS8.out.row (Below.refl _ _) hbx ?c3 ?_;(case c1=>intro u hu;simp at hu;rcases hu with rfl | rfl | rfl | rfl <;> rfl);(case c3=>omega)
  intro v9 w9 hown1 hb1 hg1 hat1
  obtain ⟨A9,c9,rfl⟩:=own_slice hown1
  have hgb:w9.heap[gO]? = some (.cells #[.slice A xs.length cp] 38 (0,0)):=blk_grown HS8.out.box hg1 (own_ne HS8.out.row HS8.out.box (by decide))
  have HS9:=Aside0.mk (HS8.out.push (own_base HVF.out (by have:=HS.out.ord;omega)) hown1 hg1 hb1)
  have HK9:=Aside0.mk ((keeps_below hHeld).trans ((keeps_row HS8.out.row hg1).trans (KeepsOthers.setCell w9 ⟨gO,0,none⟩ (.slice A9 (xs.length + 1) c9))))
  have z1:=blk_frozen hgb 0
  have z2:w9.cell? ⟨gO,0,none⟩ = some (.slice A xs.length cp):=(blk_cell hgb 0).trans rfl
  clear hown1 hb1 hg1 hat1 hgb
  refine hK.out _ _ ?_
  clear hK K
  refine norm_ (a':=?_) ?_ ?_
  rotate_left
  ·show Act.put _ (some 84) _ = _
   simp only [Act.put,List.setIfInBounds_toArray,List.set_cons_zero,List.set_cons_succ,i64_w,i32_w]
   rfl
  refine last_ (i:=8) (N:=none) (bq 9 511) rfl rfl (one_of HT_.out (by kernel_rfl)) (by decide) (fun K hK=>?_)
  rw [if_pos (by rfl)]
  go_simp
  refine hK.out _ _ ?_
  clear hK K
  refine done_ (done_of HT_.out (by kernel_rfl)) ?_
  generalize w9.setCell ⟨gO,0,none⟩ (.slice A9 (xs.length + 1) c9) = wf at HS9 HK9 ⊢
  clear z1 z2 HVF HS8 hbx hHeld g0 g1 g2 hszd HPC HSP hm0 hm1 hsz0
  have g2:wf.cell? ⟨gS,0,none⟩ = some (.int .i64 (pre.length:Int)):=(blk_cell HS9.out.s 0).trans rfl
  have f2:=blk_frozen HS9.out.s 0
  have sq:IntKind.i64.wrap ((pre.length:Int) + 1) = (pre.length:Int) + 1:=IntWalk.i64_in _ (by omega)
  gi_wp2_with fail
  have HS10:=HS9.out.next ((pre.length:Int) + 1)
  have hlen1:((pre ++ [x]).length:Int) = (pre.length:Int) + 1:=by rw [List.length_append];rfl
  refine ⟨HK9.out.trans (KeepsOthers.setCell _ _ _),⟨?_,?_⟩,_,A9,c9,⟨HNX.out (.slice Af p.length cf)⟩,⟨by rw [hlen1];exact HS10⟩⟩
  ·exact ((blk_cell HS10.q0 0).trans rfl).trans ((blk_cell HS.out.q0 0).trans rfl).symm
  ·exact ((blk_cell HS10.q1 0).trans rfl).trans ((blk_cell HS.out.q1 0).trans rfl).symm
def seB3:{ c:Code // blockFrom 3 (Tryz.f5.body.getD .skip) = some (Code.block 3 c) }:=⟨_,by rfl⟩
set_option maxHeartbeats 8000000 in
set_option maxRecDepth 100000 in
theorem se_round (c:Cfg) (A1:Option Addr) (c1:Nat) (A2:Option Addr) (c2:Nat) (A3:Option Addr) (c3:Nat) (A4:Option Addr) (c4:Nat) (w1 w2 Wr:World) (gb gO base b bT bk ok nk capk i k:Nat) (ds:List Deferred) (xsT:List (Tr × Value)) (ts:List Tr) (AT:Option Addr) (cT:Nat) (ag:Int) (xs0:List (Fr × Value)) (A0:Option Addr) (cp0:Nat)
  (hk:1 ≤ k) (hk2:k ≤ 64) (hck:c.chunk = (k:Int)) (hik:i < nk) (hnk:nk ≤ 1000) (hw1:w1.heap.size ≤ gO) (HXS:Aside0 (xsT.map (·.1) = ts)) (HXN:Aside0 (∀ x ∈ xsT,x.1.l.length ≤ 160)) (htl:xsT.length ≤ 10000) (HTR:Aside0 (w1.ownsRow bT 70 3 (.slice AT xsT.length cT) xsT.length (trc xsT))) (HTS:Aside0 (TsR w1 bT xsT)) (HX:Aside0 (w1.heap[gb]? = some (.cells (c.cells ⟨A1,c1,A2,c2,A3,c3,A4,c4⟩) 36 (0,0))))
  (HB12:Aside0 (Below w1.heap.size w1 w2)) (HB1:Aside0 (Below w1.heap.size w1 Wr)) (hcl:Wr.cell? ⟨bk,ok + i,none⟩ = some (.int .i64 ag)) (HO:Aside0 (OtSt w2 Wr gO base b ds xs0 A0 cp0)) (hx0:xs0.length ≤ 10000000)
  {q0 q2 q3 q5 q6 q7 q8 q10 q11 q12 q13 q14 q15 q16 q17 q18 q19 q20 q21 q22 q23 q24 q25 q26 q27 q28 q29 q30 q31 q32 q33 q34 q35 q36 q37 q38 q39 q40 q41 q42 q44 q46 q47 q48 q49 q50 q51 q52 q53 q54 q55 q56 q57 q58 q59 q60 q61 q62 q63 q64 q65 q66 q67 q68 q69 q70 q71 q72 q73 q74 q75 q76 q77 q78 q79 q80 q81 q82 q83 q84 q85 q86 q87 q88:Value} (Q:Exit→Go.Act→World→Prop)
  (HKK:Aside0 (∀ (u11 u12 u14 u16 u17 u18 u47 u48 u49 u50 u51 u52 u53 u54 u55 u56 u57 u58 u59 u60 u61 u62 u63 u64 u65 u66 u67 u68 u69 u70 u71 u72 u73 u74 u75 u76 u77 u78 u79 u80 u81 u82 u83 u84 u85 u86:Value) ds' W' (xs:List (Fr × Value)) (A:Option Addr) (cp:Nat),xs.map (·.1) = xs0.map (·.1) ++ frs ag k 0 (spansOf ts ag)→OtSt w2 W' gO base b ds' xs A cp→Below w1.heap.size w1 W'→Q .normal { tmps:=List.toArray (q0::(.pointer (some ⟨gb,0,none⟩))::q2::q3::(.slice AT xsT.length cT)::q5::q6::q7::q8::(.pointer (some ⟨gO,0,none⟩))::q10::u11::u12::q13::u14::q15::u16::u17::u18::q19::q20::q21::q22::q23::q24::q25::q26::q27::q28::q29::q30::q31::q32::q33::q34::q35::q36::q37::q38::q39::q40::q41::q42::(.slice (some ⟨bk,ok,none⟩) nk capk)::q44::(.int .i64 (i:Int))::q46::u47::u48::u49::u50::u51::u52::u53::u54::u55::u56::u57::u58::u59::u60::u61::u62::u63::u64::u65::u66::u67::u68::u69::u70::u71::u72::u73::u74::u75::u76::u77::u78::u79::u80::u81::u82::u83::u84::u85::u86::q87::q88::[]),defers:=ds' } W')):
  Code.wp Tryz.prog seB3.1 Q { tmps:=List.toArray (q0::(.pointer (some ⟨gb,0,none⟩))::q2::q3::(.slice AT xsT.length cT)::q5::q6::q7::q8::(.pointer (some ⟨gO,0,none⟩))::q10::q11::q12::q13::q14::q15::q16::q17::q18::q19::q20::q21::q22::q23::q24::q25::q26::q27::q28::q29::q30::q31::q32::q33::q34::q35::q36::q37::q38::q39::q40::q41::q42::(.slice (some ⟨bk,ok,none⟩) nk capk)::q44::(.int .i64 (i:Int))::q46::q47::q48::q49::q50::q51::q52::q53::q54::q55::q56::q57::q58::q59::q60::q61::q62::q63::q64::q65::q66::q67::q68::q69::q70::q71::q72::q73::q74::q75::q76::q77::q78::q79::q80::q81::q82::q83::q84::q85::q86::q87::q88::[]),defers:=ds } Wr:=by
 dsimp only [seB3]
 have hz0:(i:Int) < (nk:Int):=by omega
 go_wp2_with fail
 have hbv:Below Wr.heap.size Wr (Wr.alloc (.cells #[.int .i64 ag] 3)):=below_alloc (Below.refl _ _) _
 have HGC:=Aside0.mk (blk_new Wr (.cells #[.int .i64 ag] 3))
 obtain ⟨va,hva⟩:∃ va,va = Wr.alloc (.cells #[.int .i64 ag] 3):=⟨_,rfl⟩
 rw [← hva] at hbv HGC ⊢
 obtain ⟨gC,hgC⟩:∃ gC,gC = Wr.heap.size:=⟨_,rfl⟩
 rw [← hgC] at HGC ⊢
 have hvs:va.heap.size = gC + 1:=by rw [hva,hgC];simp
 have HGC2:=Aside0.mk hgC
 have HVS:=Aside0.mk hvs
 clear hva hgC hvs hcl hz0
 have HBV:=Aside0.mk hbv
 have HB2:=Aside0.mk (below_step HB1.out hbv)
 clear hbv
 have HROW0:Aside0 (va.ownsRow va.heap.size 74 14 (.slice none 0 0) ([]:List Sp).length (spc [])):=⟨⟨rfl,.inl ⟨rfl,rfl⟩⟩⟩
 have HAL:=Aside0.mk (fun q=>allSp_len (ts.take q) (fun x hx=>by
  have h:=List.mem_of_mem_take hx
  rw [← HXS.out] at h
  obtain ⟨y,hy,rfl⟩:=List.mem_map.mp h
  exact HXN.out y hy))
 go_loopg [12,51] xsT.length (fun gg s12 s51 wr=>∃ (q:Nat) (cur:List Sp) (vs:Value),s12 = vs∧s51 = .int .i64 (q:Int)∧q ≤ xsT.length∧xsT.length - q ≤ gg∧Aside0 (cur = (allSp (ts.take q)).filter (fun x=>x.clk == ag))∧Aside0 (wr.ownsRow va.heap.size 74 14 vs cur.length (spc cur))∧Aside0 (Below va.heap.size va wr))
 case atStart=>exact ⟨0,[],.slice none 0 0,by rfl,by rfl,by omega,by omega,⟨rfl⟩,HROW0,⟨Below.refl _ _⟩⟩
 case round=>
  clear HROW0
  obtain ⟨q,cur,vs,rfl,rfl,hq,hgq,HCU,HRW,HBW⟩:=hrel
  by_cases hqt:q < xsT.length
  ·have hz3:(q:Int) < (xsT.length:Int):=by omega
   have sq1:IntKind.i64.wrap ((q:Int) + 1) = (q:Int) + 1:=IntWalk.i64_in _ (by omega)
   obtain ⟨r0,cq0,cur0,e0,_,_⟩:=own_some HTR.out (by omega)
   injection e0 with e0 _ e0'
   subst e0
   subst e0'
   have hql:q < ts.length:=by have:=HXS.out;rw [← this,List.length_map];exact hqt
   have HTK:Aside0 (allSp (ts.take (q + 1)) = allSp (ts.take q) ++ xsT[q].1.l):=⟨by
    rw [allSp_take ts q hql]
    have h2:ts[q] = xsT[q].1:=by
     have:=HXS.out
     subst this
     simp
    rw [h2]⟩
   have hx160:=HXN.out xsT[q] (List.getElem_mem hqt)
   obtain ⟨t0,t1,t2⟩:=own_cell51 HTR.out q hqt
   have hxr:=HTS.out xsT[q] (List.getElem_mem hqt)
   obtain ⟨rx,cx,ex⟩:=own_slice hxr
   have hcl:=HCU.out
   have hAL:=HAL.out q
   rw [List.length_take] at hAL
   rw [ex] at t2 hxr
   have HXR:=Aside0.mk hxr
   clear hxr ex
   generalize xsT[q].1.l = xl at HTK hx160 t2 HXR
   generalize xsT[q].1.id = tid at t0
   have hB12:=below_step HB2.out HBW.out
   replace t0:=below_at hB12 t0
   replace t1:=below_at hB12 t1
   replace t2:=below_at hB12 t2
   clear hB12
   have hcurl:cur.length ≤ 1600000:=by
    have h1:=List.length_filter_le (fun x:Sp=>x.clk == ag) (allSp (ts.take q))
    rw [hcl];omega
   clear hcl hAL
   go_wp2_with fail
   have hbt:=below_alloc (Below.refl wr.heap.size wr) (Obj.cells #[.int .i64 tid,.int .i64 1,.slice rx xl.length cx] 70)
   generalize wr.alloc (Obj.cells #[.int .i64 tid,.int .i64 1,.slice rx xl.length cx] 70) = wb at hbt ⊢
   replace HRW:=Aside0.mk (pw_own_below HRW.out hbt)
   replace HBW:=Aside0.mk (below_step HBW.out hbt)
   clear hbt t0 t1 t2
   generalize wr.heap.size = gT
   have HCU0:Aside0 (cur = (allSp (ts.take q) ++ xl.take 0).filter (fun x=>x.clk == ag)):=⟨by rw [List.take_zero,List.append_nil];exact HCU.out⟩
   have hvab:=HVS.out
   go_loopg [12,58] xl.length (fun gg s12 s58 wr=>∃ (n:Nat) (cur:List Sp) (vs:Value),s12 = vs∧s58 = .int .i64 (n:Int)∧n ≤ xl.length∧xl.length - n ≤ gg∧cur.length ≤ 1600000 + n∧Aside0 (cur = (allSp (ts.take q) ++ xl.take n).filter (fun x=>x.clk == ag))∧Aside0 (wr.ownsRow va.heap.size 74 14 vs cur.length (spc cur))∧Aside0 (Below va.heap.size va wr))
   case atStart=>exact ⟨0,cur,u12,by rfl,by rfl,by omega,by omega,by omega,HCU0,HRW,HBW⟩
   case round=>
    clear HCU0 HRW HBW hcurl
    obtain ⟨n,cur,vs,rfl,rfl,hn,hgn,hcurl,HCN,HRW,HBW⟩:=hrel
    by_cases hnl:n < xl.length
    ·have hz4:(n:Int) < (xl.length:Int):=by omega
     have sn1:IntKind.i64.wrap ((n:Int) + 1) = (n:Int) + 1:=IntWalk.i64_in _ (by omega)
     obtain ⟨r1,cq1,cur1,e1,_,_⟩:=own_some HXR.out (by omega)
     injection e1 with e1 _ e1'
     subst e1
     subst e1'
     obtain ⟨s0,_,_,_⟩:=own_cell56 HXR.out n 0 hnl (by omega)
     obtain ⟨s1,_,_,_⟩:=own_cell56 HXR.out n 1 hnl (by omega)
     obtain ⟨s2,_,_,_⟩:=own_cell56 HXR.out n 2 hnl (by omega)
     obtain ⟨s3,_,_,_⟩:=own_cell56 HXR.out n 3 hnl (by omega)
     obtain ⟨s4,_,_,_⟩:=own_cell56 HXR.out n 4 hnl (by omega)
     obtain ⟨s5,_,_,_⟩:=own_cell56 HXR.out n 5 hnl (by omega)
     obtain ⟨s6,_,_,_⟩:=own_cell56 HXR.out n 6 hnl (by omega)
     obtain ⟨s7,_,_,_⟩:=own_cell56 HXR.out n 7 hnl (by omega)
     obtain ⟨s8,_,_,_⟩:=own_cell56 HXR.out n 8 hnl (by omega)
     obtain ⟨s9,_,_,_⟩:=own_cell56 HXR.out n 9 hnl (by omega)
     obtain ⟨s10,_,_,_⟩:=own_cell56 HXR.out n 10 hnl (by omega)
     obtain ⟨s11,_,_,_⟩:=own_cell56 HXR.out n 11 hnl (by omega)
     obtain ⟨s12,_,_,_⟩:=own_cell56 HXR.out n 12 hnl (by omega)
     obtain ⟨s13,_,_,_⟩:=own_cell56 HXR.out n 13 hnl (by omega)
     have HTN:Aside0 (xl.take (n + 1) = xl.take n ++ [xl[n]]):=⟨List.take_succ_eq_append_getElem hnl⟩
     generalize xl[n] = s at s0 s1 s2 s3 s4 s5 s6 s7 s8 s9 s10 s11 s12 s13 HTN
     have hB12:=below_step HB2.out HBW.out
     replace s0:wr.cell? ⟨r1,n * 14 + 0,none⟩ = some (.int .i64 s.tr):=(hB12.cell (World.block_lt_of_cell? _ _ s0)).trans s0
     replace s1:wr.cell? ⟨r1,n * 14 + 1,none⟩ = some (.int .i64 s.id):=(hB12.cell (World.block_lt_of_cell? _ _ s1)).trans s1
     replace s2:wr.cell? ⟨r1,n * 14 + 2,none⟩ = some (.int .i64 s.par):=(hB12.cell (World.block_lt_of_cell? _ _ s2)).trans s2
     replace s3:wr.cell? ⟨r1,n * 14 + 3,none⟩ = some (.int .i64 s.rev):=(hB12.cell (World.block_lt_of_cell? _ _ s3)).trans s3
     replace s4:wr.cell? ⟨r1,n * 14 + 4,none⟩ = some (.int .i64 s.clk):=(hB12.cell (World.block_lt_of_cell? _ _ s4)).trans s4
     replace s5:wr.cell? ⟨r1,n * 14 + 5,none⟩ = some (.int .i64 s.kind):=(hB12.cell (World.block_lt_of_cell? _ _ s5)).trans s5
     replace s6:wr.cell? ⟨r1,n * 14 + 6,none⟩ = some (.string s.svc):=(hB12.cell (World.block_lt_of_cell? _ _ s6)).trans s6
     replace s7:wr.cell? ⟨r1,n * 14 + 7,none⟩ = some (.string s.ver):=(hB12.cell (World.block_lt_of_cell? _ _ s7)).trans s7
     replace s8:wr.cell? ⟨r1,n * 14 + 8,none⟩ = some (.string s.op):=(hB12.cell (World.block_lt_of_cell? _ _ s8)).trans s8
     replace s9:wr.cell? ⟨r1,n * 14 + 9,none⟩ = some (.int .i64 s.st):=(hB12.cell (World.block_lt_of_cell? _ _ s9)).trans s9
     replace s10:wr.cell? ⟨r1,n * 14 + 10,none⟩ = some (.int .i64 s.en):=(hB12.cell (World.block_lt_of_cell? _ _ s10)).trans s10
     replace s11:wr.cell? ⟨r1,n * 14 + 11,none⟩ = some (.bool s.err):=(hB12.cell (World.block_lt_of_cell? _ _ s11)).trans s11
     replace s12:wr.cell? ⟨r1,n * 14 + 12,none⟩ = some (.slice none 0 0):=(hB12.cell (World.block_lt_of_cell? _ _ s12)).trans s12
     replace s13:wr.cell? ⟨r1,n * 14 + 13,none⟩ = some (.slice none 0 0):=(hB12.cell (World.block_lt_of_cell? _ _ s13)).trans s13
     replace s0:wr.cell? ⟨r1,n * 14,none⟩ = some (.int .i64 s.tr):=s0
     clear hB12
     have HCN2:Aside0 ((allSp (ts.take q) ++ xl.take (n + 1)).filter (fun x=>x.clk == ag) = if s.clk = ag then cur ++ [s] else cur):=⟨by rw [HTN.out,← List.append_assoc,spans_snoc,← HCN.out]⟩
     clear HTN HCN
     go_upto_region 22 with fail
     have hbs:=below_alloc (Below.refl wr.heap.size wr) (Obj.cells #[.int .i64 s.tr,.int .i64 s.id,.int .i64 s.par,.int .i64 s.rev,.int .i64 s.clk,.int .i64 s.kind,.string s.svc,.string s.ver,.string s.op,.int .i64 s.st,.int .i64 s.en,.bool s.err,.slice none 0 0,.slice none 0 0] 74)
     have HG:=Aside0.mk (blk_new wr (Obj.cells #[.int .i64 s.tr,.int .i64 s.id,.int .i64 s.par,.int .i64 s.rev,.int .i64 s.clk,.int .i64 s.kind,.string s.svc,.string s.ver,.string s.op,.int .i64 s.st,.int .i64 s.en,.bool s.err,.slice none 0 0,.slice none 0 0] 74))
     obtain ⟨wa,hwa⟩:∃ wa,wa = wr.alloc (Obj.cells #[.int .i64 s.tr,.int .i64 s.id,.int .i64 s.par,.int .i64 s.rev,.int .i64 s.clk,.int .i64 s.kind,.string s.svc,.string s.ver,.string s.op,.int .i64 s.st,.int .i64 s.en,.bool s.err,.slice none 0 0,.slice none 0 0] 74):=⟨_,rfl⟩
     rw [← hwa] at hbs HG ⊢
     replace HRW:=Aside0.mk (pw_own_below HRW.out hbs)
     replace HBW:=Aside0.mk (below_step HBW.out hbs)
     clear hwa hbs s0 s1 s2 s3 s4 s5 s6 s7 s8 s9 s10 s11 s12 s13
     generalize wr.heap.size = gs at HG ⊢
     have y0:wa.cell? ⟨gC,0,none⟩ = some (.int .i64 ag):=(blk_cell (blk_below HGC.out HBW.out) 0).trans rfl
     have s0:wa.cell? ⟨gs,0,none⟩ = some (.int .i64 s.tr):=(blk_cell HG.out 0).trans rfl
     have s1:wa.cell? ⟨gs,1,none⟩ = some (.int .i64 s.id):=(blk_cell HG.out 1).trans rfl
     have s2:wa.cell? ⟨gs,2,none⟩ = some (.int .i64 s.par):=(blk_cell HG.out 2).trans rfl
     have s3:wa.cell? ⟨gs,3,none⟩ = some (.int .i64 s.rev):=(blk_cell HG.out 3).trans rfl
     have s4:wa.cell? ⟨gs,4,none⟩ = some (.int .i64 s.clk):=(blk_cell HG.out 4).trans rfl
     have s5:wa.cell? ⟨gs,5,none⟩ = some (.int .i64 s.kind):=(blk_cell HG.out 5).trans rfl
     have s6:wa.cell? ⟨gs,6,none⟩ = some (.string s.svc):=(blk_cell HG.out 6).trans rfl
     have s7:wa.cell? ⟨gs,7,none⟩ = some (.string s.ver):=(blk_cell HG.out 7).trans rfl
     have s8:wa.cell? ⟨gs,8,none⟩ = some (.string s.op):=(blk_cell HG.out 8).trans rfl
     have s9:wa.cell? ⟨gs,9,none⟩ = some (.int .i64 s.st):=(blk_cell HG.out 9).trans rfl
     have s10:wa.cell? ⟨gs,10,none⟩ = some (.int .i64 s.en):=(blk_cell HG.out 10).trans rfl
     have s11:wa.cell? ⟨gs,11,none⟩ = some (.bool s.err):=(blk_cell HG.out 11).trans rfl
     have s12:wa.cell? ⟨gs,12,none⟩ = some (.slice none 0 0):=(blk_cell HG.out 12).trans rfl
     have s13:wa.cell? ⟨gs,13,none⟩ = some (.slice none 0 0):=(blk_cell HG.out 13).trans rfl
     by_cases hks:s.clk = ag
     ·have zne:(s.clk == ag) = true:=by simpa using hks
      have HC1:Aside0 (cur ++ [s] = (allSp (ts.take q) ++ xl.take (n + 1)).filter (fun x=>x.clk == ag)):=⟨by rw [HCN2.out,if_pos hks]⟩
      clear HCN2
      have HKS:=Aside0.mk hks
      clear hks
      obtain ⟨Af,cf,rfl⟩:=own_slice HRW.out
      have hvw:=HBW.out.size
      go_upto_region 23 with fail
      go_wp2_with (at_builtin;go_must (refine print_append_cells (w0:=va) va.heap.size rfl _ _ 68 74 _ 14 168 rfl Tryz.underlying68 info74 rfl (by decide) (by decide) (.slice Af cur.length cf) cur.length (spc cur) [.int .i64 s.tr,.int .i64 s.id,.int .i64 s.par,.int .i64 s.rev,.int .i64 s.clk,.int .i64 s.kind,.string s.svc,.string s.ver,.string s.op,.int .i64 s.st,.int .i64 s.en,.bool s.err,.slice none 0 0,.slice none 0 0] rfl ?c4 rfl ?c1 HRW.out HBW.out hvw ?c3 ?_;(case c1=>exact cells_one s);(case c4=>simp [go_sem]);(case c3=>omega);intro v1 wn hown1 hb1 hg1 hat1;have HO1:=Aside0.mk hown1;have HB3:=Aside0.mk hb1;clear hown1 hg1 hat1 hb1))
      have HO2:Aside0 (wn.ownsRow va.heap.size 74 14 v1 (cur ++ [s]).length (spc (cur ++ [s]))):=⟨by rw [List.length_append,List.length_singleton,spc_snoc];exact HO1.out⟩
      go_wp2_with fail
      go_roundg (xl.length - (n + 1))
      case measure=>omega
      case rel=>exact ⟨n + 1,cur ++ [s],v1,by rfl,by first | rfl | go_num,by omega,Nat.le_refl _,by rw [List.length_append,List.length_singleton];omega,HC1,HO2,HB3⟩
     ·have zne:(s.clk == ag) = false:=by simpa using hks
      have HC1:Aside0 (cur = (allSp (ts.take q) ++ xl.take (n + 1)).filter (fun x=>x.clk == ag)):=⟨by rw [HCN2.out,if_neg hks]⟩
      clear HCN2 hks
      go_wp2_with fail
      go_roundg (xl.length - (n + 1))
      case measure=>omega
      case rel=>exact ⟨n + 1,cur,_,by rfl,by first | rfl | go_num,by omega,Nat.le_refl _,by omega,HC1,HRW,HBW⟩
    ·obtain rfl:n = xl.length:=by omega
     have hz4:decide (xl.length < xl.length) = false:=by simp
     have hz5:decide ((xl.length:Int) < (xl.length:Int)) = false:=by simp
     have HC1:Aside0 (cur = (allSp (ts.take (q + 1))).filter (fun x=>x.clk == ag)):=⟨by rw [HTK.out,HCN.out,List.take_length]⟩
     clear HCN
     go_wp2_with fail
     go_roundg (xsT.length - (q + 1))
     case measure=>omega
     case rel=>exact ⟨q + 1,cur,_,by rfl,by first | rfl | go_num,by omega,Nat.le_refl _,HC1,HRW,HBW⟩
  ·obtain rfl:q = xsT.length:=by omega
   have hz3:decide (xsT.length < xsT.length) = false:=by simp
   have hz4:decide ((xsT.length:Int) < (xsT.length:Int)) = false:=by simp
   have HSP:Aside0 (cur = spansOf ts ag):=⟨by
    have h1:=HCU.out
    have h2:xsT.length = ts.length:=by have:=HXS.out;rw [← this,List.length_map]
    rw [h2,List.take_length] at h1
    exact h1⟩
   clear HCU
   have hcl2:cur.length ≤ 1600000:=by
    have h1:=List.length_filter_le (fun x:Sp=>x.clk == ag) (allSp ts)
    have h2:=HAL.out ts.length
    rw [List.take_length] at h2
    have h3:xsT.length = ts.length:=by have:=HXS.out;rw [← this,List.length_map]
    rw [HSP.out]
    unfold spansOf
    omega
   go_upto_region 27 with fail
   obtain ⟨Af,cf,rfl⟩:=own_slice HRW.out
   have q9:(wr.alloc (Obj.cells #[.int .i64 0] 3)).cell? ⟨gb,9,none⟩ = some (.int .i64 c.chunk):=(blk_cell (blk_below HX.out (below_step HB2.out (below_alloc HBW.out (Obj.cells #[.int .i64 0] 3)))) 9).trans rfl
   rw [hck] at q9
   go_wp2_with (go_at_call 16;refine (chunk_calls Af cur.length cf (k:Int) (by omega) _).mono ?_;rintro e wz ⟨rfl,rfl⟩)
   clear q9
   go_upto_block 8 with fail
   have hw8:wr.heap.size + 1 = (wr.alloc (Obj.cells #[Value.int IntKind.i64 0] 3)).heap.size:=by simp
   have hn0:=blk_new wr (Obj.cells #[Value.int IntKind.i64 0] 3)
   have hb0:=below_alloc (Below.refl wr.heap.size wr) (Obj.cells #[Value.int IntKind.i64 0] 3)
   generalize wr.alloc (Obj.cells #[Value.int IntKind.i64 0] 3) = x0 at hw8 hn0 hb0 ⊢
   have hn1:=blk_new x0 (Obj.cells #[Value.slice Af cur.length cf] 68)
   have hb1:=below_alloc (Below.refl x0.heap.size x0) (Obj.cells #[Value.slice Af cur.length cf] 68)
   have hw9:x0.heap.size + 1 = (x0.alloc (Obj.cells #[Value.slice Af cur.length cf] 68)).heap.size:=by simp
   generalize x0.alloc (Obj.cells #[Value.slice Af cur.length cf] 68) = x1 at hw9 hn1 hb1 ⊢
   have hn2:=blk_new x1 (Obj.cells #[Value.int IntKind.i64 (k:Int)] 3)
   have hb2:=below_alloc (Below.refl x1.heap.size x1) (Obj.cells #[Value.int IntKind.i64 (k:Int)] 3)
   generalize x1.alloc (Obj.cells #[Value.int IntKind.i64 (k:Int)] 3) = x2 at hn2 hb2 ⊢
   have hvw:=HBW.out.size
   have hv1:=HVS.out
   have hgc:=HGC2.out
   have hB3:=below_step hb0 (below_step hb1 hb2)
   have hB4:=below_step HBV.out (below_then HBW.out hvw hB3)
   have hown:=own_base (pw_own_below HRW.out hB3) (show Wr.heap.size ≤ va.heap.size by omega)
   have hst:=OtSt.start HO.out hB4 (blk_below HGC.out (below_then HBW.out hvw hB3)) (blk_below hn0 (below_step hb1 hb2)) (blk_below hn1 hb2) hn2 hown (by omega) (by omega) (by omega) (by omega)
   have HST:=Aside0.mk hst
   have HB5:=Aside0.mk (below_step HB1.out hB4)
   have hgO:=blk_lt HO.out.box
   have hbg:=HO.out.ord.1
   have hs12:Wr.heap.size ≤ x2.heap.size:=hB4.size
   obtain ⟨rb,HSQ,HSV⟩:∃ rb:Nat,SeqStopsK Fence.wide 7 Tryz.prog 35 #[.pointer (some ⟨x0.heap.size,0,none⟩),.pointer (some ⟨x1.heap.size,0,none⟩)] (ckV rb cur.length k) (KpC x0.heap.size x1.heap.size) (fun ys=>∃ q,cur.length ≤ q * k∧ys.map (·.1) = List.range q) (fun _=>True) (cur.length + 1) x2∧(0 < cur.length→(Value.slice Af cur.length cf) = .slice (some ⟨rb,0,none⟩) cur.length cf):=by
    rcases HRW.out.2 with ⟨e',h0⟩ | ⟨r',cap',cq',e',_,_,h1,_⟩
    ·refine ⟨0,?_,fun h=>by omega⟩
     have h2:∀ m,m = 0→SeqStopsK Fence.wide 7 Tryz.prog 35 #[.pointer (some ⟨x0.heap.size,0,none⟩),.pointer (some ⟨x1.heap.size,0,none⟩)] (ckV 0 m k) (KpC x0.heap.size x1.heap.size) (fun ys=>∃ q,m ≤ q * k∧ys.map (·.1) = List.range q) (fun _=>True) (m + 1) x2:=fun m hm=>by
      subst hm
      rw [e'] at hn1
      exact chunk_stops_nil 7 x0.heap.size x1.heap.size k x2 (blk_lt (blk_below hn1 hb2)) ((blk_cell (blk_below hn1 hb2) 0).trans rfl)
     exact h2 _ h0
    ·rw [e'] at hn1
     refine ⟨r',chunk_stops 7 x0.heap.size x1.heap.size r' cur.length cap' k (by omega) hk hk2 (by omega) h1 x2 (blk_lt (blk_below hn1 hb2)) (blk_lt hn2) ((blk_cell (blk_below hn1 hb2) 0).trans rfl) ((blk_cell hn2 0).trans rfl),fun _=>?_⟩
     rw [e']
     injection e' with _ _ e3
     rw [e3]
   rw [hw8,hw9]
   have HSP2:=HSP
   clear hst hown hn0 hn1 hn2 hb0 hb1 hb2 hB3 hB4
   refine se_chunk w2 x2 gO gC wr.heap.size x0.heap.size x1.heap.size base b Wr.heap.size rb cf ds (.slice Af cur.length cf) ag k cur xs0 A0 cp0 hk hk2 (by omega) hx0 ⟨HSV⟩ HST ⟨hs12⟩ ⟨HSQ⟩ _ ⟨fun D W' h1 h2 ⟨xs,A,cp,h3,h4⟩=>?_⟩
   rw [HSP2.out] at h3
   refine HKK.out _ _ _ _ _ _ _ _ _ _ _ _ _ _ _ _ _ _ _ _ _ _ _ _ _ _ _ _ _ _ _ _ _ _ _ _ _ _ _ _ _ _ _ _ _ _ _ W' xs A cp h3 (h4.fin (W0:=x2) hs12 hbg hgO h1 h2) ?_
   exact HB12.out.trans (h4.bel.mono hw1)
theorem sortown_calls (v:Value) (zs:List Int) (base:Nat) (w:World) (ho:w.ownsRow base 3 1 v zs.length (zs.map (Value.int .i64))) (h0:0 < zs.length) (hl:zs.length ≤ 1000) (hb:base ≤ w.heap.size):
  Calls Tryz.prog 14 #[v] w fun e w'=>∃ g cap:Nat,e = .returned (.tuple #[])∧v = .slice (some ⟨g,0,none⟩) zs.length cap∧w'.ownsRow base 3 1 v zs.length ((zs.mergeSort fun x y=>decide (x ≤ y)).map (Value.int .i64))∧Below base w w':=by
 rcases ho.2 with ⟨_,hn⟩ | ⟨g,cap,cur,rfl,hg,hcur,hn,hcap,hsz,htk⟩
 ·omega
 ·have hH:=holds_of_blockI (ss:=zs) hcur (by rw [Nat.mul_one] at htk;exact htk)
  have hgl:=blk_lt hcur
  refine (sort_int g 0 cap zs w hH hgl (by omega)).mono ?_
  rintro e w' ⟨rfl,n,os,rfl⟩
  have hlen:(zs.mergeSort fun x y=>decide (x ≤ y)).length = zs.length:=List.length_mergeSort _
  exact ⟨g,cap,rfl,rfl,ownsRow_sortedI (n:=n) (os:=os) hlen hg hcur hn hcap hsz,(Below.refl base w).grown (grownBy_sortedI _) hb (by intro k hk;injection hk with hk;omega)⟩
theorem grow_nil (w:World):Go.Sort.grow w #[] = w:=by unfold Go.Sort.grow;simp
theorem compown_calls (g cap:Nat) (zs:List Int) (base:Nat) (w:World) (ho:w.ownsRow base 3 1 (.slice (some ⟨g,0,none⟩) zs.length cap) zs.length (zs.map (Value.int .i64))) (h0:0 < zs.length) (hl:zs.length ≤ 1000) (hb:base ≤ w.heap.size):
  Calls Tryz.prog 15 #[.slice (some ⟨g,0,none⟩) zs.length cap] w fun e w'=>e = .returned (.slice (some ⟨g,0,none⟩) (cmpI zs).length cap)∧(∀ j (h:j < (cmpI zs).length),w'.cell? ⟨g,j,none⟩ = some (.int .i64 (cmpI zs)[j]))∧Below base w w'∧w'.heap.size = w.heap.size∧∀ i o,w.heap[i]? = some o→i ≠ g→w'.heap[i]? = some o:=by
 rcases ho.2 with ⟨h,_⟩ | ⟨g',cap',cur,e',hg,hcur,hn,hcap,hsz,htk⟩
 ·cases h
 ·injection e' with e1 _ e3
  injection e1 with e1
  injection e1 with e1
  subst e1 e3
  have hH:=holds_of_blockI (ss:=zs) hcur (by rw [Nat.mul_one] at htk;exact htk)
  refine (AnyE.slices_Compact laysComp (Value.int .i64) (fun _=>rfl) (EqlAt.intD _ _ _) (NeqAt.intD _ _ _) 0 Tryz.zeroValue3 g 0 cap zs.toArray w hH (by simp;omega) (by simpa using hn)).mono ?_
  rintro e w' ⟨rfl,q,rfl⟩
  have hd:(Go.Lib.compactUpTo zs.toArray zs.toArray.size) = cmpI zs:=by unfold cmpI;simp
  rw [hd]
  have hcl:=cmp_len zs
  have hdl:(cmpI zs ++ List.replicate (zs.toArray.size - (cmpI zs).length) (0:Int)).length = zs.length:=by rw [List.length_append,List.length_replicate];simp;omega
  rw [← grow_nil (Go.Sort.putRow _ _ _ _ _)]
  have hgb:=grownBy_sortedI (w:=w) (g:=g) (n:=q) (os:=#[]) (cmpI zs ++ List.replicate (zs.toArray.size - (cmpI zs).length) (0:Int)).toArray
  have hnb:=heap_sortedI (w:=w) (g:=g) (n:=q) (os:=#[]) (cmpI zs ++ List.replicate (zs.toArray.size - (cmpI zs).length) (0:Int)).toArray hcur
  generalize hdd:cmpI zs ++ List.replicate (zs.toArray.size - (cmpI zs).length) (0:Int) = dd at hgb hnb hdl ⊢
  have htk2:=take_putCellsI cur dd (by rw [hdl];omega)
  refine ⟨rfl,fun j hj=>?_,(Below.refl base w).grown hgb hb (by intro k hk;injection hk with hk;omega),?_,fun i o hi hne=>(hgb.block i (blk_lt hi) (by intro e;injection e with e;exact hne e)).trans hi⟩
  ·have h1:dd[j]? = some (cmpI zs)[j]:=by rw [← hdd,List.getElem?_append_left hj,List.getElem?_eq_getElem hj]
   have h2:(dd.map (Value.int .i64))[j]? = some (.int .i64 (cmpI zs)[j]):=by rw [List.getElem?_map,h1];rfl
   rw [← htk2,List.getElem?_take,if_pos (by rw [hdl];omega),Array.getElem?_toList] at h2
   rw [cell_of_row _ g j _ 3 (0,0) hnb]
   exact h2
  ·rw [grow_nil];unfold Go.Sort.putRow Go.Sort.mapBlock;simp [Go.Sort.ahead]
def seB2:{ c:Code // blockFrom 2 (Tryz.f5.body.getD .skip) = some (Code.block 2 c) }:=⟨_,by rfl⟩
set_option maxHeartbeats 8000000 in
set_option maxRecDepth 100000 in
theorem se_loop (c:Cfg) (A1:Option Addr) (c1:Nat) (A2:Option Addr) (c2:Nat) (A3:Option Addr) (c3:Nat) (A4:Option Addr) (c4:Nat) (w1 w2:World) (gb gO base b bT bk capk k:Nat) (xsT:List (Tr × Value)) (ts:List Tr) (AT:Option Addr) (cT:Nat) (ks:List Int)
  (hk:1 ≤ k) (hk2:k ≤ 64) (hck:c.chunk = (k:Int)) (hnk:ks.length ≤ 6) (hw1:w1.heap.size ≤ gO) (hbk:bk < gO) (HXS:Aside0 (xsT.map (·.1) = ts)) (HXN:Aside0 (∀ x ∈ xsT,x.1.l.length ≤ 160)) (htl:xsT.length ≤ 10000) (HTR:Aside0 (w1.ownsRow bT 70 3 (.slice AT xsT.length cT) xsT.length (trc xsT))) (HTS:Aside0 (TsR w1 bT xsT)) (HX:Aside0 (w1.heap[gb]? = some (.cells (c.cells ⟨A1,c1,A2,c2,A3,c3,A4,c4⟩) 36 (0,0))))
  (HB12:Aside0 (Below w1.heap.size w1 w2)) (HCL:Aside0 (∀ j (h:j < ks.length),w2.cell? ⟨bk,j,none⟩ = some (.int .i64 ks[j]))) (HO:Aside0 (OtSt w2 w2 gO base b [] [] none 0))
  {q0 q2 q3 q5 q6 q7 q8 q10 q11 q12 q13 q14 q15 q16 q17 q18 q19 q20 q21 q22 q23 q24 q25 q26 q27 q28 q29 q30 q31 q32 q33 q34 q35 q36 q37 q38 q39 q40 q41 q42 q46 q47 q48 q49 q50 q51 q52 q53 q54 q55 q56 q57 q58 q59 q60 q61 q62 q63 q64 q65 q66 q67 q68 q69 q70 q71 q72 q73 q74 q75 q76 q77 q78 q79 q80 q81 q82 q83 q84 q85 q86 q87 q88:Value} (Q:Exit→Go.Act→World→Prop)
  (HQ:Aside0 (∀ (u11 u12 u14 u16 u17 u18 u46 u47 u48 u49 u50 u51 u52 u53 u54 u55 u56 u57 u58 u59 u60 u61 u62 u63 u64 u65 u66 u67 u68 u69 u70 u71 u72 u73 u74 u75 u76 u77 u78 u79 u80 u81 u82 u83 u84 u85 u86 u87:Value) ds W' (xs:List (Fr × Value)) (A:Option Addr) (cp:Nat),xs.map (·.1) = sentL k ts ks→OtSt w2 W' gO base b ds xs A cp→Below w1.heap.size w1 W'→Q (.exit 2) { tmps:=List.toArray (q0::(.pointer (some ⟨gb,0,none⟩))::q2::q3::(.slice AT xsT.length cT)::q5::q6::q7::q8::(.pointer (some ⟨gO,0,none⟩))::q10::u11::u12::q13::u14::q15::u16::u17::u18::q19::q20::q21::q22::q23::q24::q25::q26::q27::q28::q29::q30::q31::q32::q33::q34::q35::q36::q37::q38::q39::q40::q41::q42::(.slice (some ⟨bk,0,none⟩) ks.length capk)::(.int .i64 (ks.length:Int))::(.int .i64 (ks.length:Int))::u46::u47::u48::u49::u50::u51::u52::u53::u54::u55::u56::u57::u58::u59::u60::u61::u62::u63::u64::u65::u66::u67::u68::u69::u70::u71::u72::u73::u74::u75::u76::u77::u78::u79::u80::u81::u82::u83::u84::u85::u86::u87::q88::[]),defers:=ds } W')):
  Code.wp Tryz.prog seB2.1 Q { tmps:=List.toArray (q0::(.pointer (some ⟨gb,0,none⟩))::q2::q3::(.slice AT xsT.length cT)::q5::q6::q7::q8::(.pointer (some ⟨gO,0,none⟩))::q10::q11::q12::q13::q14::q15::q16::q17::q18::q19::q20::q21::q22::q23::q24::q25::q26::q27::q28::q29::q30::q31::q32::q33::q34::q35::q36::q37::q38::q39::q40::q41::q42::(.slice (some ⟨bk,0,none⟩) ks.length capk)::(.int .i64 (ks.length:Int))::(.int .i64 0)::q46::q47::q48::q49::q50::q51::q52::q53::q54::q55::q56::q57::q58::q59::q60::q61::q62::q63::q64::q65::q66::q67::q68::q69::q70::q71::q72::q73::q74::q75::q76::q77::q78::q79::q80::q81::q82::q83::q84::q85::q86::q87::q88::[]),defers:=[] } w2:=by
 dsimp only [seB2]
 have HAS:=Aside0.mk (fun q=>allSp_len (ts.take q) (fun x hx=>by
  have h:=List.mem_of_mem_take hx
  rw [← HXS.out] at h
  obtain ⟨y,hy,rfl⟩:=List.mem_map.mp h
  exact HXN.out y hy))
 have HSL:Aside0 (∀ q,(sentL k ts (ks.take q)).length ≤ q * 1600000):=⟨fun q=>by
  have h1:=sentL_len k hk ts (ks.take q)
  have h2:=HAS.out ts.length
  have h3:xsT.length = ts.length:=by have:=HXS.out;rw [← this,List.length_map]
  rw [List.take_length] at h2
  have h4:(ks.take q).length ≤ q:=by rw [List.length_take];omega
  have h5:(allSp ts).length ≤ 1600000:=by omega
  exact Nat.le_trans h1 (Nat.mul_le_mul h4 h5)⟩
 refine wp_loop_ghost_k (fun gg a wr=>∃ u11:Value,∃ u12:Value,∃ u14:Value,∃ u16:Value,∃ u17:Value,∃ u18:Value,∃ u46:Value,∃ u47:Value,∃ u48:Value,∃ u49:Value,∃ u50:Value,∃ u51:Value,∃ u52:Value,∃ u53:Value,∃ u54:Value,∃ u55:Value,∃ u56:Value,∃ u57:Value,∃ u58:Value,∃ u59:Value,∃ u60:Value,∃ u61:Value,∃ u62:Value,∃ u63:Value,∃ u64:Value,∃ u65:Value,∃ u66:Value,∃ u67:Value,∃ u68:Value,∃ u69:Value,∃ u70:Value,∃ u71:Value,∃ u72:Value,∃ u73:Value,∃ u74:Value,∃ u75:Value,∃ u76:Value,∃ u77:Value,∃ u78:Value,∃ u79:Value,∃ u80:Value,∃ u81:Value,∃ u82:Value,∃ u83:Value,∃ u84:Value,∃ u85:Value,∃ u86:Value,∃ u87:Value,(∃ (i:Nat) (ds:List Deferred) (xs:List (Fr × Value)) (A:Option Addr) (cp:Nat),i ≤ ks.length∧ks.length - i ≤ gg∧Aside0 (xs.map (·.1) = sentL k ts (ks.take i))∧Aside0 (OtSt w2 wr gO base b ds xs A cp)∧Aside0 (Below w1.heap.size w1 wr)∧a = { tmps:=List.toArray (q0::(.pointer (some ⟨gb,0,none⟩))::q2::q3::(.slice AT xsT.length cT)::q5::q6::q7::q8::(.pointer (some ⟨gO,0,none⟩))::q10::u11::u12::q13::u14::q15::u16::u17::u18::q19::q20::q21::q22::q23::q24::q25::q26::q27::q28::q29::q30::q31::q32::q33::q34::q35::q36::q37::q38::q39::q40::q41::q42::(.slice (some ⟨bk,0,none⟩) ks.length capk)::(.int .i64 (ks.length:Int))::(.int .i64 (i:Int))::u46::u47::u48::u49::u50::u51::u52::u53::u54::u55::u56::u57::u58::u59::u60::u61::u62::u63::u64::u65::u66::u67::u68::u69::u70::u71::u72::u73::u74::u75::u76::u77::u78::u79::u80::u81::u82::u83::u84::u85::u86::u87::q88::[]),defers:=ds })) ks.length ?_ ?_
 ·exact ⟨_,_,_,_,_,_,_,_,_,_,_,_,_,_,_,_,_,_,_,_,_,_,_,_,_,_,_,_,_,_,_,_,_,_,_,_,_,_,_,_,_,_,_,_,_,_,_,_,0,[],[],none,0,Nat.zero_le _,by omega,⟨rfl⟩,HO,HB12,rfl⟩
 intro gk a wr hI
 obtain ⟨u11,hI⟩:=hI
 obtain ⟨u12,hI⟩:=hI
 obtain ⟨u14,hI⟩:=hI
 obtain ⟨u16,hI⟩:=hI
 obtain ⟨u17,hI⟩:=hI
 obtain ⟨u18,hI⟩:=hI
 obtain ⟨u46,hI⟩:=hI
 obtain ⟨u47,hI⟩:=hI
 obtain ⟨u48,hI⟩:=hI
 obtain ⟨u49,hI⟩:=hI
 obtain ⟨u50,hI⟩:=hI
 obtain ⟨u51,hI⟩:=hI
 obtain ⟨u52,hI⟩:=hI
 obtain ⟨u53,hI⟩:=hI
 obtain ⟨u54,hI⟩:=hI
 obtain ⟨u55,hI⟩:=hI
 obtain ⟨u56,hI⟩:=hI
 obtain ⟨u57,hI⟩:=hI
 obtain ⟨u58,hI⟩:=hI
 obtain ⟨u59,hI⟩:=hI
 obtain ⟨u60,hI⟩:=hI
 obtain ⟨u61,hI⟩:=hI
 obtain ⟨u62,hI⟩:=hI
 obtain ⟨u63,hI⟩:=hI
 obtain ⟨u64,hI⟩:=hI
 obtain ⟨u65,hI⟩:=hI
 obtain ⟨u66,hI⟩:=hI
 obtain ⟨u67,hI⟩:=hI
 obtain ⟨u68,hI⟩:=hI
 obtain ⟨u69,hI⟩:=hI
 obtain ⟨u70,hI⟩:=hI
 obtain ⟨u71,hI⟩:=hI
 obtain ⟨u72,hI⟩:=hI
 obtain ⟨u73,hI⟩:=hI
 obtain ⟨u74,hI⟩:=hI
 obtain ⟨u75,hI⟩:=hI
 obtain ⟨u76,hI⟩:=hI
 obtain ⟨u77,hI⟩:=hI
 obtain ⟨u78,hI⟩:=hI
 obtain ⟨u79,hI⟩:=hI
 obtain ⟨u80,hI⟩:=hI
 obtain ⟨u81,hI⟩:=hI
 obtain ⟨u82,hI⟩:=hI
 obtain ⟨u83,hI⟩:=hI
 obtain ⟨u84,hI⟩:=hI
 obtain ⟨u85,hI⟩:=hI
 obtain ⟨u86,hI⟩:=hI
 obtain ⟨u87,hI⟩:=hI
 obtain ⟨i,ds,xs,A,cp,hi,hgi,HXE,HOT,HB1,rfl⟩:=hI
 intro J K hJ hK
 have hxl:xs.length ≤ i * 1600000:=by
  have h1:=congrArg List.length HXE.out
  rw [List.length_map] at h1
  rw [h1];exact HSL.out i
 clear HO
 by_cases hlt:i < ks.length
 ·have hz0:(i:Int) < (ks.length:Int):=by omega
  have hz1:decide ((i:Int) < (ks.length:Int)) = true:=decide_eq_true hz0
  have si1:IntKind.i64.wrap ((i:Int) + 1) = (i:Int) + 1:=IntWalk.i64_in _ (by omega)
  have HNX:Aside0 (∀ xs':List (Fr × Value),xs'.map (·.1) = xs.map (·.1) ++ frs ks[i] k 0 (spansOf ts ks[i])→xs'.map (·.1) = sentL k ts (ks.take (i + 1))):=⟨fun xs' h=>by
   rw [h,HXE.out,List.take_succ_eq_append_getElem hlt]
   unfold sentL
   rw [List.flatMap_append,List.flatMap_cons,List.flatMap_nil,List.append_nil]⟩
  have hcl:wr.cell? ⟨bk,0 + i,none⟩ = some (.int .i64 ks[i]):=by
   rw [Nat.zero_add]
   exact (HOT.out.bel.cell (p:=⟨bk,i,none⟩) hbk).trans (HCL.out i hlt)
  generalize ks[i] = ag at HNX hcl
  have hxb:xs.length ≤ 10000000:=by omega
  have HCE:=Aside0.mk hcl
  clear hcl
  go_upto_block 3 with fail
  refine wp_block ?_
  refine se_round c A1 c1 A2 c2 A3 c3 A4 c4 w1 w2 wr gb gO base b bT bk 0 ks.length capk i k ds xsT ts AT cT ag xs A cp hk hk2 hck hlt (by omega) hw1 HXS HXN htl HTR HTS HX HB12 HB1 HCE.out HOT hxb _ ⟨fun v11 v12 v14 v16 v17 v18 v47 v48 v49 v50 v51 v52 v53 v54 v55 v56 v57 v58 v59 v60 v61 v62 v63 v64 v65 v66 v67 v68 v69 v70 v71 v72 v73 v74 v75 v76 v77 v78 v79 v80 v81 v82 v83 v84 v85 v86 ds' W' xs' A' cp' h1 h2 h3=>?_⟩
  have HX1:=Aside0.mk (HNX.out xs' h1)
  have HX2:=Aside0.mk h2
  have HX3:=Aside0.mk h3
  clear h1 h2 h3 HCE HNX HOT HXE
  go_wp2_with fail
  refine Handed.intro (ks.length - (i + 1)) ?measure ?_
  rotate_left
  go_step
  (repeat apply Exists.intro)
  refine ⟨?r1,?r2,?r3,?r4,?r5,rfl⟩
  case measure=>omega
  case r1=>exact (by omega:i + 1 ≤ ks.length)
  case r2=>exact Nat.le_refl _
  case r3=>exact HX1
  case r4=>exact HX2
  case r5=>exact HX3
 ·obtain rfl:i = ks.length:=by omega
  have hz1:decide ((ks.length:Int) < (ks.length:Int)) = false:=by simp
  have hz2:decide (ks.length < ks.length) = false:=by simp
  have HXF:Aside0 (xs.map (·.1) = sentL k ts ks):=⟨by rw [HXE.out,List.take_length]⟩
  clear HXE hxl
  go_wp2_with fail
  exact HQ.out _ _ _ _ _ _ _ _ _ _ _ _ _ _ _ _ _ _ _ _ _ _ _ _ _ _ _ _ _ _ _ _ _ _ _ _ _ _ _ _ _ _ _ _ _ _ _ _ ds wr xs A cp HXF.out HOT.out HB1.out
theorem FsOut.shut {b base:Nat} {W W':World} {fs:List Fr} {v:Value} (h:FsOut base W fs v) (hs:ShutD b W W'):FsOut base W' fs v:=by
 obtain ⟨xs,h1,h2,h3⟩:=h
 exact ⟨xs,h1,own_shut h2 hs,fun x hx=>⟨own_shut (h3 x hx).1 hs,fun k hk=>by rw [hs.size];exact (h3 x hx).2 k hk⟩⟩
set_option maxHeartbeats 8000000 in
set_option maxRecDepth 100000 in
theorem sent_calls (k0:Nat) (c:Cfg) (p:CfgAt) (w:World) (k:Nat) (ts:List Tr) (hR:CfgR w p c) (hck0:ckAll k0 c = some 0) (h:tracesV 110 c (shiftSp c.off) = some ts) (hck:c.chunk = (k:Int)) (hk:1 ≤ k) (hk2:k ≤ 64) (hlen:∀ x ∈ ts,x.l.length ≤ 160) (htl:ts.length ≤ 10000) (hn0:1 ≤ c.sv.length) (hn6:c.sv.length ≤ 6):
  Calls Tryz.prog 5 #[c.val p] w (fun e w'=>∃ v,e = .returned (.tuple #[v,.int .i64 0])∧FsOut w.heap.size w' (sentL k ts (cmpI ((c.sv.map (·.f1)).mergeSort fun x y=>decide (x ≤ y)))) v∧Below w.heap.size w w'):=by
 obtain ⟨A1,c1,A2,c2,A3,c3,A4,c4⟩:=p
 have HR:=Aside0.mk hR
 have HX:=Aside0.mk (blk_new w (.cells (c.cells ⟨A1,c1,A2,c2,A3,c3,A4,c4⟩) 36))
 have HB:=Aside0.mk (below_alloc (Below.refl w.heap.size w) (.cells (c.cells ⟨A1,c1,A2,c2,A3,c3,A4,c4⟩) 36))
 have HCK:=Aside0.mk hck0
 have HTV:=Aside0.mk h
 have HLN:=Aside0.mk hlen
 have HCH:=Aside0.mk hck
 clear hR hck0 h hlen hck
 refine callsIn_wide.1 (callsIn_of_wp_marks (n:=9) (F:=Fence.wide) Tryz.func5 rfl trivial ((wpIn_wide (n:=9)).2 ?_) rfl)
 simp only [Tryz.ntmps5,List.size_toArray,List.length_cons,List.length_nil,Nat.reduceAdd,Nat.reduceSub,Array.replicate_succ,Array.replicate_zero,List.push_toArray,List.append_toArray,List.nil_append,List.cons_append]
 obtain ⟨QM,hQM⟩:∃ QM,QM = bodyPostM Fence.wide 9 Tryz.prog Tryz.f5 (fun e w'=>∃ v,e = .returned (.tuple #[v,.int .i64 0])∧FsOut w.heap.size w' (sentL k ts (cmpI ((c.sv.map (·.f1)).mergeSort fun x y=>decide (x ≤ y)))) v∧Below w.heap.size w w'):=⟨_,rfl⟩
 rw [← hQM]
 have HQM:Aside0 (∀ a W,LeavesInM Fence.wide 9 Tryz.prog Tryz.f5 a.tmps (fun e w'=>∃ v,e = .returned (.tuple #[v,.int .i64 0])∧FsOut w.heap.size w' (sentL k ts (cmpI ((c.sv.map (·.f1)).mergeSort fun x y=>decide (x ≤ y)))) v∧Below w.heap.size w w') a.defers .returning W→QM .ret a W):=⟨fun a W h=>by rw [hQM];exact h⟩
 clear hQM
 go_upto_region 1 with fail
 generalize w.alloc (.cells (c.cells ⟨A1,c1,A2,c2,A3,c3,A4,c4⟩) 36) = v0 at HX HB ⊢
 obtain ⟨q0,q1,q2,q3,q4,q5,q6,q7,q8,q9,q10,q11⟩:=cfg12 HX.out
 go_upto_region 2 with (go_at_call 13;refine (Traces_ok 110 k0 c ⟨A1,c1,A2,c2,A3,c3,A4,c4⟩ _ ts (HR.out.below HB.out) HCK.out HTV.out).mono ?_;rintro e w1 ⟨v,rfl,ht,hb⟩;obtain ⟨xsT,hxs,hrow,hts⟩:=ht;have HXS:=Aside0.mk hxs;have HTR0:=Aside0.mk hrow;have HTS:=Aside0.mk hts;have HHB:=Aside0.mk hb;clear hxs hrow hts hb q0 q1 q2 q3 q4 q5 q6 q7 q8 q9 q10 q11)
 replace HX:=Aside0.mk (blk_below HX.out HHB.out)
 have HR1:=Aside0.mk (HR.out.below (below_step HB.out HHB.out))
 replace HB:=Aside0.mk (below_step HB.out HHB.out)
 clear HHB HR HCK HTV
 obtain ⟨AT,cT,rfl⟩:=own_slice HTR0.out
 have q1:w1.cell? ⟨w.heap.size,1,none⟩ = some (.slice A1 c.sv.length c1):=(blk_cell HX.out 1).trans rfl
 have hsvl:=hn6
 go_wp2_with fail
 go_loopg [6,30] c.sv.length (fun gg s6 s30 wr=>∃ (j:Nat) (A:Option Addr) (cp:Nat),s6 = .slice A j cp∧s30 = .int .i64 (j:Int)∧j ≤ c.sv.length∧c.sv.length - j ≤ gg∧Aside0 (wr.ownsRow w1.heap.size 3 1 (.slice A j cp) j (((c.sv.take j).map (·.f1)).map (Value.int .i64)))∧Aside0 (Below w1.heap.size w1 wr))
 case atStart=>exact ⟨0,none,0,by rfl,by rfl,by omega,by omega,⟨⟨rfl,.inl ⟨rfl,rfl⟩⟩⟩,⟨Below.refl _ _⟩⟩
 case round=>
  clear q1
  obtain ⟨j,A,cp,rfl,rfl,hj,hgj,HO,HBL⟩:=hrel
  by_cases hlt:j < c.sv.length
  ·have hz1:(j:Int) < (c.sv.length:Int):=by omega
   have sj1:IntKind.i64.wrap ((j:Int) + 1) = (j:Int) + 1:=IntWalk.i64_in _ (by omega)
   obtain ⟨ad,A5,k5,e,p0,p1,p2,p3,p4,p5,-,-⟩:=at_T51 HR1.out.r1 (j:Int) (by omega) (by omega)
   subst e
   rw [rd_T51_get _ j hlt] at p0 p1 p2 p3 p4 p5
   have HTJ:Aside0 (((c.sv.take (j + 1)).map (·.f1)).map (Value.int .i64) = ((c.sv.take j).map (·.f1)).map (Value.int .i64) ++ [.int .i64 c.sv[j].f1]):=⟨by rw [List.take_succ_eq_append_getElem hlt,List.map_append,List.map_append];rfl⟩
   generalize c.sv[j] = s at p0 p1 p2 p3 p4 p5 HTJ
   simp only [Int.toNat_natCast] at p0 p1 p2 p3 p4 p5
   replace p0:=below_at HBL.out p0
   replace p1:=below_at HBL.out p1
   replace p2:=below_at HBL.out p2
   replace p3:=below_at HBL.out p3
   replace p4:=below_at HBL.out p4
   replace p5:=below_at HBL.out p5
   generalize ((c.sv.take j).map (·.f1)).map (Value.int .i64) = zs at HO HTJ
   go_upto_region 8 with fail
   have hbs:=below_alloc (Below.refl wr.heap.size wr) (Obj.cells #[(.string s.f0),(.int .i64 s.f1),(.int .i64 s.f2),(.int .i64 s.f3),(.int .i64 s.f4),(.slice A5 s.f5.length k5)] 51)
   have HG:=Aside0.mk (blk_new wr (Obj.cells #[(.string s.f0),(.int .i64 s.f1),(.int .i64 s.f2),(.int .i64 s.f3),(.int .i64 s.f4),(.slice A5 s.f5.length k5)] 51))
   obtain ⟨wa,hwa⟩:∃ wa,wa = wr.alloc (Obj.cells #[(.string s.f0),(.int .i64 s.f1),(.int .i64 s.f2),(.int .i64 s.f3),(.int .i64 s.f4),(.slice A5 s.f5.length k5)] 51):=⟨_,rfl⟩
   rw [← hwa] at hbs HG ⊢
   replace HO:=Aside0.mk (pw_own_below HO.out hbs)
   replace HBL:=Aside0.mk (below_step HBL.out hbs)
   clear hwa hbs p0 p1 p2 p3 p4 p5
   generalize wr.heap.size = gs at HG ⊢
   have y1:wa.cell? ⟨gs,1,none⟩ = some (.int .i64 s.f1):=(blk_cell HG.out 1).trans rfl
   have hvw:=HBL.out.size
   go_wp2_with (at_builtin;go_must (refine print_append_cells (w0:=w1) w1.heap.size rfl _ _ 65 3 _ 1 8 rfl Tryz.underlying65 info3 rfl (by decide) (by decide) (.slice A j cp) j zs [.int .i64 s.f1] rfl ?c4 rfl ?c1 HO.out HBL.out hvw ?c3 ?_;(case c1=>intro u hu;simp at hu;subst hu;rfl);(case c4=>simp [go_sem]);(case c3=>omega);intro v1 wn hown1 hb1 hg1 hat1;obtain ⟨A9,c9,rfl⟩:=own_slice hown1;have HO1:=Aside0.mk hown1;have HB3:=Aside0.mk hb1;clear hown1 hg1 hat1 hb1))
   go_wp2_with fail
   go_roundg (c.sv.length - (j + 1))
   case measure=>omega
   case rel=>exact ⟨j + 1,A9,c9,by rfl,by first | rfl | go_num,by omega,Nat.le_refl _,⟨by rw [HTJ.out];exact HO1.out⟩,HB3⟩
  ·obtain rfl:j = c.sv.length:=by omega
   have hz1:decide ((c.sv.length:Int) < (c.sv.length:Int)) = false:=by simp
   have hz2:decide (c.sv.length < c.sv.length) = false:=by simp
   obtain ⟨zs,hzs⟩:∃ zs,zs = c.sv.map (·.f1):=⟨_,rfl⟩
   have hzl:zs.length = c.sv.length:=by rw [hzs,List.length_map]
   have HO2:Aside0 (wr.ownsRow w1.heap.size 3 1 (.slice A c.sv.length cp) zs.length (zs.map (Value.int .i64))):=⟨by have h:=HO.out;rw [List.take_length,← hzs] at h;rw [hzl];exact h⟩
   rw [← hzs] at HQM
   have HZL:=Aside0.mk hzl
   clear HO hzs hlt
   have hn1:0 < zs.length:=by omega
   have hn2:zs.length ≤ 1000:=by omega
   have hvw:=HBL.out.size
   clear hzl
   go_upto_region 11 with (go_at_call 14;with_reducible refine (sortown_calls (.slice A c.sv.length cp) zs w1.heap.size _ HO2.out hn1 hn2 hvw).mono ?_;rintro e ws ⟨g,cap,rfl,e2,hown,hb⟩;have HE2:=Aside0.mk e2;have HO3:=Aside0.mk hown;have HB4:=Aside0.mk (HBL.out.trans hb);clear e2 hown hb)
   have hE:=HE2.out
   injection hE with e3 e5 e4
   subst e3
   subst e4
   clear HE2 e5
   obtain ⟨zs2,hz2⟩:∃ zs2:List Int,zs2 = zs.mergeSort (fun x y=>decide (x ≤ y)):=⟨_,rfl⟩
   rw [← hz2] at HO3 HQM
   have hl2:zs2.length = c.sv.length:=by rw [hz2,List.length_mergeSort,HZL.out]
   have HL2:=Aside0.mk hl2
   clear hz2 hvw hn1 hn2
   have hgw:g < ws.heap.size:=own_lt HO3.out g rfl
   have hw1s:w1.heap.size ≤ ws.heap.size:=HB4.out.size
   clear HO2 HBL
   have HCC:Aside0 (∀ W,Below ws.heap.size ws W→Calls Tryz.prog 15 #[.slice (some ⟨g,0,none⟩) c.sv.length cp] W fun e w'=>e = .returned (.slice (some ⟨g,0,none⟩) (cmpI zs2).length cp)∧(∀ j (h:j < (cmpI zs2).length),w'.cell? ⟨g,j,none⟩ = some (.int .i64 (cmpI zs2)[j]))∧Below w1.heap.size W w'∧w'.heap.size = W.heap.size∧∀ i o,W.heap[i]? = some o→i ≠ g→w'.heap[i]? = some o):=⟨fun W hW=>by
    have ho:=pw_own_below HO3.out hW
    have hz:=HZL.out
    have h:=compown_calls g cp zs2 w1.heap.size W (by rw [hl2];rw [hz] at ho;exact ho) (by omega) (by omega) (by have:=hW.size;omega)
    rw [hl2] at h
    exact h⟩
   clear hl2
   go_upto_block 2 with (go_at_call 15;with_reducible refine (HCC.out _ (below_alloc (Below.refl ws.heap.size ws) _)).mono ?_;rintro e w2 ⟨rfl,hcl,hb2,hsz,hoth⟩;have HCL:=Aside0.mk hcl;have HB5:=Aside0.mk hb2;have HSZ:=Aside0.mk hsz;have HOT:=Aside0.mk (hoth ws.heap.size _ (blk_new ws (.cells #[.slice none 0 0] 38)) (by omega));clear hcl hb2 hsz hoth)
   refine wp_block ?_
   have hks:(cmpI zs2).length ≤ 6:=by
    have:=cmp_len zs2
    have:=HL2.out
    omega
   have hwz:w2.heap.size = ws.heap.size + 1:=by rw [HSZ.out];simp
   have HB12:=Aside0.mk ((HB4.out.trans ((Below.refl w1.heap.size ws).alloc hw1s (.cells #[.slice none 0 0] 38))).trans HB5.out)
   have HXL:Aside0 (xsT.length ≤ 10000):=⟨by rw [show xsT.length = ts.length from by have:=HXS.out;rw [← this,List.length_map]];exact htl⟩
   have HXN:Aside0 (∀ x ∈ xsT,x.1.l.length ≤ 160):=⟨fun x hx=>HLN.out x.1 (by rw [← HXS.out];exact List.mem_map_of_mem hx)⟩
   generalize cmpI zs2 = ks at HCL hks HQM ⊢
   refine se_loop c A1 c1 A2 c2 A3 c3 A4 c4 w1 w2 w.heap.size ws.heap.size w2.heap.size w1.heap.size v0.heap.size g cp k xsT ts AT cT ks hk hk2 HCH.out hks hw1s hgw HXS HXN HXL.out HTR0 HTS HX HB12 HCL ⟨⟨Below.refl _ _,HOT.out,⟨rfl,.inl ⟨rfl,rfl⟩⟩,(fun x hx=>by cases hx),trivial,⟨hw1s,by omega,Nat.le_refl _⟩⟩⟩ _ ⟨fun u11 u12 u14 u16 u17 u18 u46 u47 u48 u49 u50 u51 u52 u53 u54 u55 u56 u57 u58 u59 u60 u61 u62 u63 u64 u65 u66 u67 u68 u69 u70 u71 u72 u73 u74 u75 u76 u77 u78 u79 u80 u81 u82 u83 u84 u85 u86 u87 ds W' xs A cp' h1 h2 h3=>?_⟩
   have HX1:=Aside0.mk h1
   have HX2:=Aside0.mk h2
   have HX3:=Aside0.mk h3
   have y0:W'.cell? ⟨ws.heap.size,0,none⟩ = some (.slice A xs.length cp'):=(blk_cell h2.box 0).trans rfl
   clear h1 h2 h3
   go_wp2_with fail
   refine HQM.out _ _ ?_
   dsimp only
   refine Marks.leaves ds W'.heap.size W' HX2.out.mark (fun W'' hs=>⟨_,results_tmp2 rfl _ _ _,?_⟩)
   refine ⟨.slice A xs.length cp',rfl,FsOut.shut ⟨xs,HX1.out,own_base HX2.out.row (by have:=HB.out.size;omega),HX2.out.fs.low (by have:=HB.out.size;omega)⟩ hs,below_step HB.out (HX3.out.trans hs.bel)⟩
end Go.Proofs.YtdadnapfecmmdaaGreat.P
