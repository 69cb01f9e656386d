/- Own texts of a proof about layer 55's simulate (merged): Cb. -/
import Derived.Test.YtdadnapfecmmdaaGreatXs2
import Derived.Test.YtdadnapfecmmdaaGreatXs3
import Derived.Deep.DeepMust
namespace Go.Proofs.YtdadnapfecmmdaaGreat.P
set_option linter.unusedVariables false
set_option linter.unusedSimpArgs false
open Go.RowKit Go.Proofs.YtdadnapfecmmdaaGreatW.PrintWords Go.Proofs.YtdadnapfecmmdaaGreatW.PrintLast Go.Proofs.YtdadnapfecmmdaaGreatW.PrintMore
open Go.Proofs.YtdadnapfecmmdaaGreat.Hm
abbrev zeroCfg:Array Value:=#[.int .i64 0,.slice none 0 0,.slice none 0 0,.slice none 0 0,.slice none 0 0,.int .i64 0,.int .i64 0,.int .i64 0,.int .i64 0,.int .i64 0,.int .i64 0,.int .i64 0]
structure CfgB (w wr:World) (pc cc:Array Value):Prop where
 P:wr.heap[w.heap.size]? = some (.cells pc 28 (0,0))
 R:wr.heap[w.heap.size + 1]? = some (.cells zeroCfg 36 (0,0))
 C:wr.heap[w.heap.size + 2]? = some (.cells cc 36 (0,0))
 B:Below w.heap.size w wr
theorem CfgB.below {w wr w2:World} {pc cc:Array Value} (h:CfgB w wr pc cc) (hb:Below wr.heap.size wr w2):CfgB w w2 pc cc:=
 ⟨blk_below h.P hb,blk_below h.R hb,blk_below h.C hb,below_step h.B hb⟩
theorem CfgB.grown {w wr w2:World} {pc cc:Array Value} {row:Option Nat} (h:CfgB w wr pc cc) (hg:wr.grownBy w2 row) (hb:Below w.heap.size w w2) (h0:some w.heap.size ≠ row) (h1:some (w.heap.size + 1) ≠ row) (h2:some (w.heap.size + 2) ≠ row):CfgB w w2 pc cc:=
 ⟨blk_grown h.P hg h0,blk_grown h.R hg h1,blk_grown h.C hg h2,hb⟩
theorem CfgB.set {w wr:World} {pc cc:Array Value} (h:CfgB w wr pc cc) (i:Nat) (v:Value):CfgB w (wr.setCell ⟨w.heap.size + 2,i,none⟩ v) pc (cc.setIfInBounds i v):=
 ⟨blk_far h.P (by simp) _,blk_far h.R (by simp) _,blk_set h.C i v,h.B.setCell (by simp) _⟩
theorem cells87 {w:World} {A:Option Addr} {n:Nat} {xs:List S47} (h:Kd.C k47 w A n xs) (i:Nat) (hi:i < n):∃ ad,A = some ad∧w.cell? (ad.add (i * 5)) = some (.int .u8 (rd_T47 xs i).f0)∧w.cell? ⟨(ad.add (i * 5)).block,(ad.add (i * 5)).off + 1,none⟩ = some (.int .u8 (rd_T47 xs i).f1)∧w.cell? ⟨(ad.add (i * 5)).block,(ad.add (i * 5)).off + 2,none⟩ = some (.int .u8 (rd_T47 xs i).f2)∧w.cell? ⟨(ad.add (i * 5)).block,(ad.add (i * 5)).off + 3,none⟩ = some (.int .u8 (rd_T47 xs i).f3)∧w.cell? ⟨(ad.add (i * 5)).block,(ad.add (i * 5)).off + 4,none⟩ = some (.int .u8 (rd_T47 xs i).f4):=by
 have:=at_T47 h (i:Int) (by omega) (by omega)
 simpa only [Int.toNat_natCast] using this
theorem cells59 {w:World} {A:Option Addr} {n:Nat} {xs:List S59} (h:Kd.C k59 w A n xs) (i:Nat) (hi:i < n):∃ ad,A = some ad∧w.cell? (ad.add (i * 6)) = some (.int .u8 (rd_T59 xs i).f0)∧w.cell? ⟨(ad.add (i * 6)).block,(ad.add (i * 6)).off + 1,none⟩ = some (.int .u8 (rd_T59 xs i).f1)∧w.cell? ⟨(ad.add (i * 6)).block,(ad.add (i * 6)).off + 2,none⟩ = some (.int .u8 (rd_T59 xs i).f2)∧w.cell? ⟨(ad.add (i * 6)).block,(ad.add (i * 6)).off + 3,none⟩ = some (.int .u8 (rd_T59 xs i).f3)∧w.cell? ⟨(ad.add (i * 6)).block,(ad.add (i * 6)).off + 4,none⟩ = some (.int .u8 (rd_T59 xs i).f4)∧w.cell? ⟨(ad.add (i * 6)).block,(ad.add (i * 6)).off + 5,none⟩ = some (.int .u8 (rd_T59 xs i).f5):=by
 have:=at_T59 h (i:Int) (by omega) (by omega)
 simpa only [Int.toNat_natCast] using this
theorem ok87 {l:List S47} (h:∀ x ∈ l,U8 x.f0∧U8 x.f1∧U8 x.f2∧U8 x.f3∧U8 x.f4) (i:Nat) (hi:i < l.length):U8 (rd_T47 l i).f0∧U8 (rd_T47 l i).f1∧U8 (rd_T47 l i).f2∧U8 (rd_T47 l i).f3∧U8 (rd_T47 l i).f4:=by
 have e:rd_T47 l (i:Int) = l[i]:=by unfold rd_T47;simp [List.getD_eq_getElem?_getD,hi]
 rw [e]
 exact h _ (List.getElem_mem hi)
theorem ok59 {l:List S59} (h:∀ x ∈ l,U8 x.f0∧U8 x.f1∧U8 x.f2∧U8 x.f3∧U8 x.f4∧U8 x.f5) (i:Nat) (hi:i < l.length):U8 (rd_T59 l i).f0∧U8 (rd_T59 l i).f1∧U8 (rd_T59 l i).f2∧U8 (rd_T59 l i).f3∧U8 (rd_T59 l i).f4∧U8 (rd_T59 l i).f5:=by
 have e:rd_T59 l (i:Int) = l[i]:=by unfold rd_T59;simp [List.getD_eq_getElem?_getD,hi]
 rw [e]
 exact h _ (List.getElem_mem hi)
theorem Plan.ps_ok {p:Plan} (h:PlanOk p):∀ x ∈ p.ps,U8 x.f0∧U8 x.f1∧U8 x.f2∧U8 x.f3∧U8 x.f4:=by
 intro x hx
 unfold Plan.ps at hx
 split at hx
 ·obtain rfl:x = z47:=by simpa using hx
  exact ⟨by simp [U8,z47],by simp [U8,z47],by simp [U8,z47],by simp [U8,z47],by simp [U8,z47]⟩
 ·exact h.parts x hx
theorem Plan.ps_pos (p:Plan):1 ≤ p.ps.length:=by
 unfold Plan.ps
 split
 ·simp
 ·rename_i h
  exact List.length_pos_iff.mpr h
theorem Plan.n_pos (p:Plan):1 ≤ p.n:=by
 have:=p.ps_pos
 unfold Plan.n
 omega
abbrev cfgCells (p:Plan) (v1 v2 v3 v4:Value):Array Value:=#[.int .i64 p.seed,v1,v2,v3,v4,.int .i64 (p.first % 8),.int .i64 (p.first % 8 + p.slots % 4),.int .i64 (p.per % 3),.int .i64 (p.delay % 6),.int .i64 (1 + p.chunk % 8),.int .i64 (p.loss % 9 * 1000000 / 8),.int .i64 (p.rep % 9 * 1000000 / 8)]
def Plan.svTo (p:Plan) (k:Nat):List S51:=(List.range k).map fun (i:Nat)=>svOf p.n i (rd_T47 p.ps i)
theorem Plan.svTo_succ (p:Plan) (k:Nat):p.svTo (k + 1) = p.svTo k ++ [svOf p.n k (rd_T47 p.ps k)]:=by simp [Plan.svTo,List.range_succ]
theorem Plan.svTo_len (p:Plan) (k:Nat):(p.svTo k).length = k:=by simp [Plan.svTo]
theorem add_block (ad:Addr) (n:Nat):(ad.add n).block = ad.block:=by
 unfold Addr.add
 split <;> rfl
theorem bit_eq (x:Int) (k:Nat) (h0:0 ≤ x) (h1:x ≤ 255):(bits BinOp.and IntKind.u8 (x / 2 ^ k) 1 == 1) = bitOf x k:=by
 have h2:0 ≤ x / 2 ^ k:=Int.ediv_nonneg h0 (Int.le_of_lt (Int.pow_pos (by decide)))
 have h3:x / 2 ^ k ≤ x:=Int.ediv_le_self _ h0
 have h:=bits_mask .u8 8 (by decide) wraps_u8 1 (by decide) (x / 2 ^ k) h2 (by omega)
 have h4:bits BinOp.and IntKind.u8 (x / 2 ^ k) 1 = x / 2 ^ k % 2:=by simpa using h
 unfold bitOf
 rw [h4]
 by_cases h5:x / 2 ^ k % 2 = 1
 ·simp [h5]
 ·simp [h5]
def Plan.oAt (p:Plan):Nat→Int
 | 0=>p.o0
 | 1=>p.o1
 | _=>p.o2
def Plan.offTo (p:Plan) (k:Nat):List S54:=p.offs.take k
theorem Plan.offTo_succ (p:Plan) (k:Nat) (hk:k < 3):p.offTo (k + 1) = p.offTo k ++ [⟨(k:Int) + 1,(p.oAt k).tmod 21⟩]:=by
 match k,hk with
 | 0,_=>rfl
 | 1,_=>rfl
 | 2,_=>rfl
theorem Plan.offTo_len (p:Plan) (k:Nat) (hk:k ≤ 3):(p.offTo k).length = k:=by
 unfold Plan.offTo
 rw [List.length_take]
 have:p.offs.length = 3:=rfl
 omega
theorem Plan.oAt_ok {p:Plan} (h:PlanOk p) (k:Nat):I8 (p.oAt k):=by
 match k with
 | 0=>exact h.o0
 | 1=>exact h.o1
 | _ + 2=>exact h.o2
theorem Plan.oAt_cell (p:Plan) (a:PlanAt) (k:Nat) (hk:k < 3):(p.cells a)[2 + k]? = some (.int .i8 (p.oAt k)):=by
 match k,hk with
 | 0,_=>rfl
 | 1,_=>rfl
 | 2,_=>rfl
theorem tmod21 (o:Int) (h0:-128 ≤ o) (h1:o ≤ 127):-20 ≤ o.tmod 21∧o.tmod 21 ≤ 20:=by
 rcases Int.le_total 0 o with h | h
 ·rw [Int.tmod_eq_emod_of_nonneg h];omega
 ·have e:o.tmod 21 = -((-o).tmod 21):=by rw [Int.neg_tmod];omega
  rw [e,Int.tmod_eq_emod_of_nonneg (by omega)]
  omega
theorem k54_KM {w:World} {base:Nat} {ok:Nat→Prop} {x:S54} {cs:List Value} (h:k54.K w x cs):k54.M w base ok x cs:=by
 obtain rfl:=k54_open h
 exact k54_mkM w base ok x
theorem k61_KM {w:World} {base:Nat} {ok:Nat→Prop} {x:S61} {cs:List Value} (h:k61.K w x cs):k61.M w base ok x cs:=by
 obtain rfl:=k61_open h
 exact k61_mkM w base ok x
def Plan.stTo (p:Plan) (k:Nat):List S56:=(p.steps.take k).map fun x=>{ x with f1:=x.f1 % 10 }
theorem Plan.stTo_succ (p:Plan) (k:Nat) (hk:k < p.steps.length):p.stTo (k + 1) = p.stTo k ++ [{ rd_T56 p.steps k with f1:=(rd_T56 p.steps k).f1 % 10 }]:=by
 have e:rd_T56 p.steps (k:Int) = p.steps[k]:=by unfold rd_T56;simp [List.getD_eq_getElem?_getD,hk]
 unfold Plan.stTo
 rw [List.take_succ_eq_append_getElem hk,List.map_append,e]
 rfl
theorem Plan.stTo_len (p:Plan) (k:Nat) (hk:k ≤ p.steps.length):(p.stTo k).length = k:=by
 unfold Plan.stTo
 rw [List.length_map,List.length_take]
 omega
theorem Plan.stTo_end (p:Plan) (k:Nat) (hk:k ≤ p.steps.length) (h6:k ≤ 6) (h:¬ (k < p.steps.length∧k < 6)):p.sts = p.stTo k:=by
 unfold Plan.sts Plan.stTo
 by_cases h1:k = 6
 ·rw [h1]
 ·have:k = p.steps.length:=by omega
  rw [List.take_of_length_le (by omega),this,List.take_length]
theorem Plan.sts_ok {p:Plan} (h:PlanOk p):∀ x ∈ p.sts,U8 x.f0∧U8 x.f1∧U8 x.f2∧U8 x.f3∧U8 x.f4:=by
 intro x hx
 unfold Plan.sts at hx
 obtain ⟨y,hy,rfl⟩:=List.mem_map.mp hx
 obtain ⟨h0,h1,h2,h3,h4⟩:=h.steps y (List.mem_of_mem_take hy)
 refine ⟨h0,?_,h2,h3,h4⟩
 unfold U8 at *
 dsimp only
 omega
def Plan.flTo (p:Plan) (k:Nat):List S61:=(p.trs.take k).map (trOf p.n)
theorem Plan.flTo_succ (p:Plan) (k:Nat) (hk:k < p.trs.length):p.flTo (k + 1) = p.flTo k ++ [trOf p.n (rd_T59 p.trs k)]:=by
 have e:rd_T59 p.trs (k:Int) = p.trs[k]:=by unfold rd_T59;simp [List.getD_eq_getElem?_getD,hk]
 unfold Plan.flTo
 rw [List.take_succ_eq_append_getElem hk,List.map_append,e]
 rfl
theorem Plan.flTo_len (p:Plan) (k:Nat) (hk:k ≤ p.trs.length):(p.flTo k).length = k:=by
 unfold Plan.flTo
 rw [List.length_map,List.length_take]
 omega
theorem Plan.flTo_end (p:Plan) (k:Nat) (hk:k ≤ p.trs.length) (h3:k ≤ 3) (h:¬ (k < p.trs.length∧k < 3)):p.flts = p.flTo k:=by
 unfold Plan.flts Plan.flTo
 by_cases h1:k = 3
 ·rw [h1]
 ·have:k = p.trs.length:=by omega
  rw [List.take_of_length_le (by omega),this,List.take_length]
section
variable {ops:Array Oper} {o:Oper} {a:Act} {Q:Exit→Act→World→Prop} {Kc:Act→World→Prop} {W:World}
theorem ver_step (hw:Region.wanted o (yielded ops a.tmps) = true) (hrun:(execOp a.eval o).run Tryz.prog W = .ok (.value (.slice (some ⟨W.heap.size,0,none⟩) 3 3)) (W.alloc (.cells #[.string ⟨#[]⟩,.string ⟨#[118,49]⟩,.string ⟨#[118,50]⟩] 9)))
  (h:∀ g w1,(∀ k,k < 3→w1.cell? ⟨g,k,none⟩ = some (.string (ver3 k)))→Below W.heap.size W w1→Kc (a.put o.dst (.slice (some ⟨g,0,none⟩) 3 3)) w1):if Region.wanted o (yielded ops a.tmps) = true then Oper.wp Tryz.prog o a W Kc Q else Kc (a.put o.dst undef) W:=
 event_step hw hrun (h _ _ (fun k hk=>by
  rw [blk_cell (blk_new W _)]
  match k,hk with
  | 0,_=>rfl
  | 1,_=>rfl
  | 2,_=>rfl) (below_alloc (Below.refl _ _) _))
end
theorem names_ex (w:World):Calls Tryz.prog 11 #[] w fun e w'=>∃ g:Nat,e = .returned (.slice (some ⟨g,0,none⟩) 4 4)∧NamesAt w' g∧Below w.heap.size w w':=(names_any w).mono fun _ _ h=>⟨_,h⟩
theorem fill12 {W:World} {g:Nat} {t:TypeId} {z0 z1 z2 z3 z4 z5 z6 z7 z8 z9 z10 z11:Value} (h:W.heap[g]? = some (.cells #[z0,z1,z2,z3,z4,z5,z6,z7,z8,z9,z10,z11] t (0,0))) (v0 v1 v2 v3 v4 v5 v6 v7 v8 v9 v10 v11:Value):
  ((((((((((((W.setCell ⟨g,0,none⟩ v0).setCell ⟨g,1,none⟩ v1).setCell ⟨g,2,none⟩ v2).setCell ⟨g,3,none⟩ v3).setCell ⟨g,4,none⟩ v4).setCell ⟨g,5,none⟩ v5).setCell ⟨g,6,none⟩ v6).setCell ⟨g,7,none⟩ v7).setCell ⟨g,8,none⟩ v8).setCell ⟨g,9,none⟩ v9).setCell ⟨g,10,none⟩ v10).setCell ⟨g,11,none⟩ v11).heap[g]? = some (.cells #[v0,v1,v2,v3,v4,v5,v6,v7,v8,v9,v10,v11] t (0,0)):=by
 have h0:=blk_set h 0 v0
 have h1:=blk_set h0 1 v1
 have h2:=blk_set h1 2 v2
 have h3:=blk_set h2 3 v3
 have h4:=blk_set h3 4 v4
 have h5:=blk_set h4 5 v5
 have h6:=blk_set h5 6 v6
 have h7:=blk_set h6 7 v7
 have h8:=blk_set h7 8 v8
 have h9:=blk_set h8 9 v9
 have h10:=blk_set h9 10 v10
 have h11:=blk_set h10 11 v11
 simpa using h11
theorem below12 {w W:World} {g:Nat} (h:Below w.heap.size w W) (hg:w.heap.size ≤ g) (v0 v1 v2 v3 v4 v5 v6 v7 v8 v9 v10 v11:Value):Below w.heap.size w ((((((((((((W.setCell ⟨g,0,none⟩ v0).setCell ⟨g,1,none⟩ v1).setCell ⟨g,2,none⟩ v2).setCell ⟨g,3,none⟩ v3).setCell ⟨g,4,none⟩ v4).setCell ⟨g,5,none⟩ v5).setCell ⟨g,6,none⟩ v6).setCell ⟨g,7,none⟩ v7).setCell ⟨g,8,none⟩ v8).setCell ⟨g,9,none⟩ v9).setCell ⟨g,10,none⟩ v10).setCell ⟨g,11,none⟩ v11):=((((((((((((h.setCell (p:=⟨g,0,none⟩) hg v0).setCell (p:=⟨g,1,none⟩) hg v1).setCell (p:=⟨g,2,none⟩) hg v2).setCell (p:=⟨g,3,none⟩) hg v3).setCell (p:=⟨g,4,none⟩) hg v4).setCell (p:=⟨g,5,none⟩) hg v5).setCell (p:=⟨g,6,none⟩) hg v6).setCell (p:=⟨g,7,none⟩) hg v7).setCell (p:=⟨g,8,none⟩) hg v8).setCell (p:=⟨g,9,none⟩) hg v9).setCell (p:=⟨g,10,none⟩) hg v10).setCell (p:=⟨g,11,none⟩) hg v11)
theorem R_set12 {α:Type} {d:Kd α} {e:Nat} {W:World} {base:Nat} {ok:Nat→Prop} {v:Value} {xs:List α} {g t:Nat} {cells:Array Value} (h:Kd.R d e W base ok v xs) (hb:W.heap[g]? = some (.cells cells t (0,0))) (ht:∀ q,q ∈ e::d.E→q ≠ t) (v0 v1 v2 v3 v4 v5 v6 v7 v8 v9 v10 v11:Value):Kd.R d e ((((((((((((W.setCell ⟨g,0,none⟩ v0).setCell ⟨g,1,none⟩ v1).setCell ⟨g,2,none⟩ v2).setCell ⟨g,3,none⟩ v3).setCell ⟨g,4,none⟩ v4).setCell ⟨g,5,none⟩ v5).setCell ⟨g,6,none⟩ v6).setCell ⟨g,7,none⟩ v7).setCell ⟨g,8,none⟩ v8).setCell ⟨g,9,none⟩ v9).setCell ⟨g,10,none⟩ v10).setCell ⟨g,11,none⟩ v11) base ok v xs:=by
 have b0:=blk_set hb 0 v0
 have b1:=blk_set b0 1 v1
 have b2:=blk_set b1 2 v2
 have b3:=blk_set b2 3 v3
 have b4:=blk_set b3 4 v4
 have b5:=blk_set b4 5 v5
 have b6:=blk_set b5 6 v6
 have b7:=blk_set b6 7 v7
 have b8:=blk_set b7 8 v8
 have b9:=blk_set b8 9 v9
 have b10:=blk_set b9 10 v10
 have r0:=Kd.R_set h hb ht 0 v0
 have r1:=Kd.R_set r0 b0 ht 1 v1
 have r2:=Kd.R_set r1 b1 ht 2 v2
 have r3:=Kd.R_set r2 b2 ht 3 v3
 have r4:=Kd.R_set r3 b3 ht 4 v4
 have r5:=Kd.R_set r4 b4 ht 5 v5
 have r6:=Kd.R_set r5 b5 ht 6 v6
 have r7:=Kd.R_set r6 b6 ht 7 v7
 have r8:=Kd.R_set r7 b7 ht 8 v8
 have r9:=Kd.R_set r8 b8 ht 9 v9
 have r10:=Kd.R_set r9 b9 ht 10 v10
 have r11:=Kd.R_set r10 b10 ht 11 v11
 exact r11
def CfgO (b:Nat) (w:World) (p:CfgAt) (c:Cfg):Prop:=∀ W':World,(∀ k,b ≤ k→k < w.heap.size→W'.heap[k]? = w.heap[k]?)→CfgR W' p c
theorem CfgO.now {b:Nat} {w:World} {p:CfgAt} {c:Cfg} (h:CfgO b w p c):CfgR w p c:=h w (fun _ _ _=>rfl)
theorem R_from {α:Type} {d:Kd α} {e base:Nat} {ok:Nat→Prop} {w W':World} {v:Value} {xs:List α} (h:d.R e w base ok v xs) (hk:∀ k,base ≤ k→k < w.heap.size→W'.heap[k]? = w.heap[k]?):d.R e W' base (fun k=>ok k∧base ≤ k∧k < w.heap.size∧∃ q,q ∈ e::d.E∧∃ cells,w.heap[k]? = some (.cells cells q (0,0))) v xs:=
 Kd.R_step (Kd.R_bound h) (fun k ho hlt=>hk k ho.2.1 hlt)
def CfgOut (w:World) (c:Cfg) (e:Ending) (w':World):Prop:=∃ p:CfgAt,e = .returned (c.val p)∧CfgO w.heap.size w' p c∧Below w.heap.size w w'
abbrev nilV:Value:=.slice none 0 0
theorem lit87 (W:World):Kd.C k47 (W.alloc (.cells #[.int .u8 0,.int .u8 0,.int .u8 0,.int .u8 0,.int .u8 0] 47)) (some ⟨W.heap.size,0,none⟩) 1 [z47]:=by
 have h:=OwnRow.lit (R:=k47.K (W.alloc (.cells #[.int .u8 0,.int .u8 0,.int .u8 0,.int .u8 0,.int .u8 0] 47))) (e:=47) (size:=5) (ps:=[z47]) W W.heap.size (inner:=[.int .u8 0,.int .u8 0,.int .u8 0,.int .u8 0,.int .u8 0]) ((Reps.none _ _).snoc (k47_mk _ z47) rfl) (Nat.le_refl _) (by decide)
 obtain ⟨A,c,e,_,hr⟩:=OwnRow.reads h
 injection e with e1 e2 e3
 subst e1
 exact hr
def cfgT.T10:Bool × List (List Nat × List Nat):=(true,[([],[]),([],[]),([0,1],[0,1]),([2],[2]),([],[]),([4],[4]),([5],[5]),([6],[6]),([7],[7]),([],[]),([9],[9]),([10],[10]),([11],[11]),([],[]),([13],[13]),([14],[14]),([15],[15]),([],[]),([17],[17]),([18],[18]),([19],[19]),([20],[20]),([21],[21]),([3,8,12,16,22],[3,8,12,16,22]),([],[]),([24,23,0,0,1,2,3,4,5,6,7,8,9,10,11,12,13,14,15,16,17,18,19,20,21,22,23,24],[23,24])])
def cfgT.B10:List Nat:=[0,0,3,7,0,16,48,112,240,0,512,1536,3584,0,8192,24576,57344,0,131072,393216,917504,1966080,4063232,8388607,0,33554431]
theorem cfgT.tab10:rtab .any (opsOf Tryz.f4 10) = cfgT.T10:=by kernel_rfl
theorem cfgT.bits10:waitsOk cfgT.T10.2 cfgT.B10 = true:=by kernel_rfl
def cfgT.T15:Bool × List (List Nat × List Nat):=(true,[([],[]),([0],[0]),([],[]),([],[]),([3],[3]),([],[]),([4,5],[4,5]),([2,6],[2,6]),([7],[7]),([8],[8]),([1,9,2],[1,9]),([0,1,2,3,4,5,6,7,8,9,10],[]),([11,10,10,0,1,2,3,4,5,6,7,8,9,10],[10,11])])
def cfgT.B15:List Nat:=[0,1,0,0,8,0,56,124,252,508,1023,2047,4095]
theorem cfgT.tab15:rtab .any (opsOf Tryz.f4 15) = cfgT.T15:=by kernel_rfl
theorem cfgT.bits15:waitsOk cfgT.T15.2 cfgT.B15 = true:=by kernel_rfl
def cfgT.T20:Bool × List (List Nat × List Nat):=(true,[([],[]),([0],[0]),([],[]),([2],[2]),([],[]),([],[]),([5,4],[4,5]),([6],[6]),([7],[7]),([8],[8]),([3,9],[3,9]),([10],[10]),([1,11],[1,11]),([0,1,2,3,4,5,6,7,8,9,10,11,12],[]),([13,12,12,0,1,2,3,4,5,6,7,8,9,10,11,12],[12,13])])
def cfgT.B20:List Nat:=[0,1,0,4,0,0,48,112,240,496,1020,2044,4095,8191,16383]
theorem cfgT.tab20:rtab .any (opsOf Tryz.f4 20) = cfgT.T20:=by kernel_rfl
theorem cfgT.bits20:waitsOk cfgT.T20.2 cfgT.B20 = true:=by kernel_rfl
def cfgT.T33:Bool × List (List Nat × List Nat):=(true,[([],[]),([0],[0]),([],[]),([],[]),([3],[3]),([4],[4]),([],[]),([5,6],[5,6]),([2,7],[2,7]),([8],[8]),([],[]),([],[]),([11],[11]),([12],[12]),([10,13],[10,13]),([14],[14]),([],[]),([16],[16]),([17],[17]),([18],[18]),([],[]),([20],[20]),([21],[21]),([22],[22]),([23],[23]),([],[]),([25],[25]),([26],[26]),([27],[27]),([24,28],[24,28]),([19,29],[19,29]),([],[]),([31],[31]),([32],[32]),([33],[33]),([],[]),([35],[35]),([36],[36]),([37],[37]),([38],[38]),([39],[39]),([9,15,30,34,40],[9,15,30,34,40]),([41],[41]),([1,42,2],[1,42]),([0,1,2,3,4,5,6,7,8,9,10,11,12,13,14,15,16,17,18,19,20,21,22,23,24,25,26,27,28,29,30,31,32,33,34,35,36,37,38,39,40,41,42,43],[]),([44,43,43,0,1,2,3,4,5,6,7,8,9,10,11,12,13,14,15,16,17,18,19,20,21,22,23,24,25,26,27,28,29,30,31,32,33,34,35,36,37,38,39,40,41,42,43],[43,44])])
def cfgT.B33:List Nat:=[0,1,0,0,8,24,0,120,252,508,0,0,2048,6144,15360,31744,0,65536,196608,458752,0,1048576,3145728,7340032,15728640,0,33554432,100663296,234881024,535822336,1073676288,0,2147483648,6442450944,15032385536,0,34359738368,103079215104,240518168576,515396075520,1065151889408,2199023255548,4398046511100,8796093022207,17592186044415,35184372088831]
theorem cfgT.tab33:rtab .any (opsOf Tryz.f4 33) = cfgT.T33:=by kernel_rfl
theorem cfgT.bits33:waitsOk cfgT.T33.2 cfgT.B33 = true:=by kernel_rfl
def headRegion:Code→Option Nat
 | .region n _ _=>some n
 | .seq a _=>headRegion a
 | .block _ c=>headRegion c
 | .loop c=>headRegion c
 | _=>none
def tailFrom (k:Nat):Code→Option Code
 | .seq a b=>if headRegion a == some k then some (.seq a b) else match tailFrom k a with
  | some c=>some c
  | none=>tailFrom k b
 | .block _ c=>tailFrom k c
 | .loop c=>tailFrom k c
 | _=>none
def tail17:{ c:Code // tailFrom 17 (Tryz.f4.body.getD .skip) = some c }:=⟨_,by rfl⟩
def tail28:{ c:Code // tailFrom 28 (Tryz.f4.body.getD .skip) = some c }:=⟨_,by rfl⟩
def blockFrom (k:Nat):Code→Option Code
 | .seq a b=>match blockFrom k a with
  | some c=>some c
  | none=>blockFrom k b
 | .cond _ a b=>match blockFrom k a with
  | some c=>some c
  | none=>blockFrom k b
 | .block n c=>if n == k then some (.block n c) else blockFrom k c
 | .loop c=>blockFrom k c
 | _=>none
def blk2:{ c:Code // blockFrom 2 (Tryz.f4.body.getD .skip) = some c }:=⟨_,by rfl⟩
def reg10S:{ c:Array Oper // opsIn (Tryz.f4.body.getD .skip) 10 = some c }:=⟨_,by rfl⟩
set_option maxHeartbeats 16000000 in
set_option maxRecDepth 100000 in
theorem config_part10 (i n:Nat) (x0 x1 x2 x3 x4:Int) (wx0 wx:World) (HX0:Aside0 (wx.heap[wx0.heap.size]? = some (.cells #[.int .u8 x0,.int .u8 x1,.int .u8 x2,.int .u8 x3,.int .u8 x4] 47 (0,0)))) (hn4:n ≤ 4) (hlt:i < n) (p00:0 ≤ x0) (p01:x0 ≤ 255) (p10:0 ≤ x1) (p11:x1 ≤ 255) (p20:0 ≤ x2) (p21:x2 ≤ 255) (p30:0 ≤ x3) (p31:x3 ≤ 255) {q0 q1 q2 q3 q4 q5 q8 q9 q10 q11 q12 q13 q14 q15 q16 q17 q18 q19 q20 q21 q22 q23 q24 q25 q26 q27 q28 q29 q30 q31 q32 q33 q34 q35 q36 q37 q38 q39 q40 q41 q42 q43 q44 q45 q46 q47 q48 q49 q50 q51 q52 q53 q54 q55 q56 q57 q58 q59 q60 q61 q62 q63 q64 q65 q66 q67 q68 q69 q70 q71 q72 q73 q74 q75 q76 q77 q78 q79 q80 q81 q82 q83 q84 q85 q86 q87 q88 q89 q90 q91 q92 q93 q94 q95 q96 q97 q98 q99 q100 q101 q102 q103 q104 q105 q106 q107 q108 q109 q110 q111 q112 q113 q114 q115 q116 q117 q118 q119 q120 q121 q122 q123 q124 q125 q126 q127 q128 q129 q130 q131 q132 q133 q134 q135 q136 q137 q138 q139 q140 q141 q142 q143 q144 q145 q146 q147 q148 q149 q150 q151 q152 q153 q154 q155 q156 q157 q158 q159 q160 q161 q162 q163 q164 q165 q166 q167 q168 q169 q170 q171 q172 q173 q174 q175 q176 q177 q178 q179 q180 q181 q182 q183 q184 q185 q186 q187 q188 q189 q190 q191 q192 q193 q194 q195 q196 q197 q198 q199 q200 q201 q202 q203 q204 q205 q206 q207 q208 q209 q210 q211 q212 q213 q214 q215 q216 q217 q218 q219 q220 q221 q222 q223 q224 q225 q226 q227 q228 q229 q230 q231 q232 q233 q234 q235 q236 q237 q238 q239 q240 q241 q242 q243 q244 q245:Value} (Q:Exit→Act→World→Prop) (hQ:∀ x (a:Act) N v w,Q (Exit.panic x) (Act.put a N v) w→Q (Exit.panic x) a w) (KK:Act→World→Prop) (HKK:Aside0 (∀ {r8 r78 r79 r80 r81 r82 r83 r84 r85 r86 r87 r88 r89 r90 r91 r92 r93 r94 r95 r96 r97 r98 r99 r100 r101:Value} {wz:World},(∃ sb:Nat,r8 = .pointer (some ⟨sb,0,none⟩)∧Aside0 (wz.heap[sb]? = some (.cells #[.string (nm4 i),.int .i64 (1 + x0 % 3),.int .i64 (x1 % 20),.int .i64 (x2 % 10),.int .i64 (x3 % 4 * 1000000 / 4),nilV] 51 (0,0)))∧Aside0 (wx.heap.size ≤ sb)∧Aside0 (Below wx.heap.size wx wz))→KK { tmps:=List.toArray (q0::q1::q2::q3::q4::q5::(.int .i64 (i:Int))::(.pointer (some ⟨wx0.heap.size,0,none⟩))::(r8)::q9::q10::q11::q12::q13::q14::q15::q16::q17::q18::q19::q20::q21::q22::q23::q24::q25::q26::q27::q28::q29::q30::q31::q32::q33::q34::q35::q36::q37::q38::q39::q40::q41::q42::q43::q44::q45::q46::q47::q48::q49::q50::q51::q52::q53::q54::q55::q56::q57::q58::q59::q60::q61::q62::q63::q64::q65::q66::q67::q68::q69::q70::q71::q72::q73::q74::q75::q76::q77::(r78)::(r79)::(r80)::(r81)::(r82)::(r83)::(r84)::(r85)::(r86)::(r87)::(r88)::(r89)::(r90)::(r91)::(r92)::(r93)::(r94)::(r95)::(r96)::(r97)::(r98)::(r99)::(r100)::(r101)::q102::q103::q104::q105::q106::q107::q108::q109::q110::q111::q112::q113::q114::q115::q116::q117::q118::q119::q120::q121::q122::q123::q124::q125::q126::q127::q128::q129::q130::q131::q132::q133::q134::q135::q136::q137::q138::q139::q140::q141::q142::q143::q144::q145::q146::q147::q148::q149::q150::q151::q152::q153::q154::q155::q156::q157::q158::q159::q160::q161::q162::q163::q164::q165::q166::q167::q168::q169::q170::q171::q172::q173::q174::q175::q176::q177::q178::q179::q180::q181::q182::q183::q184::q185::q186::q187::q188::q189::q190::q191::q192::q193::q194::q195::q196::q197::q198::q199::q200::q201::q202::q203::q204::q205::q206::q207::q208::q209::q210::q211::q212::q213::q214::q215::q216::q217::q218::q219::q220::q221::q222::q223::q224::q225::q226::q227::q228::q229::q230::q231::q232::q233::q234::q235::q236::q237::q238::q239::q240::q241::q242::q243::q244::q245::[]),defers:=[] } wz)):
  Code.wp Tryz.prog (Code.region 10 reg10S.1 true) (Exit.then KK Q) { tmps:=List.toArray (q0::q1::q2::q3::q4::q5::(.int .i64 (i:Int))::(.pointer (some ⟨wx0.heap.size,0,none⟩))::(q8)::q9::q10::q11::q12::q13::q14::q15::q16::q17::q18::q19::q20::q21::q22::q23::q24::q25::q26::q27::q28::q29::q30::q31::q32::q33::q34::q35::q36::q37::q38::q39::q40::q41::q42::q43::q44::q45::q46::q47::q48::q49::q50::q51::q52::q53::q54::q55::q56::q57::q58::q59::q60::q61::q62::q63::q64::q65::q66::q67::q68::q69::q70::q71::q72::q73::q74::q75::q76::q77::(q78)::(q79)::(q80)::(q81)::(q82)::(q83)::(q84)::(q85)::(q86)::(q87)::(q88)::(q89)::(q90)::(q91)::(q92)::(q93)::(q94)::(q95)::(q96)::(q97)::(q98)::(q99)::(q100)::(q101)::q102::q103::q104::q105::q106::q107::q108::q109::q110::q111::q112::q113::q114::q115::q116::q117::q118::q119::q120::q121::q122::q123::q124::q125::q126::q127::q128::q129::q130::q131::q132::q133::q134::q135::q136::q137::q138::q139::q140::q141::q142::q143::q144::q145::q146::q147::q148::q149::q150::q151::q152::q153::q154::q155::q156::q157::q158::q159::q160::q161::q162::q163::q164::q165::q166::q167::q168::q169::q170::q171::q172::q173::q174::q175::q176::q177::q178::q179::q180::q181::q182::q183::q184::q185::q186::q187::q188::q189::q190::q191::q192::q193::q194::q195::q196::q197::q198::q199::q200::q201::q202::q203::q204::q205::q206::q207::q208::q209::q210::q211::q212::q213::q214::q215::q216::q217::q218::q219::q220::q221::q222::q223::q224::q225::q226::q227::q228::q229::q230::q231::q232::q233::q234::q235::q236::q237::q238::q239::q240::q241::q242::q243::q244::q245::[]),defers:=[] } wx:=by
 dsimp only [reg10S]
 have e0:wx.cell? ⟨wx0.heap.size,0,none⟩ = some (.int .u8 x0):=(blk_cell HX0.out 0).trans rfl
 have e1:wx.cell? ⟨wx0.heap.size,1,none⟩ = some (.int .u8 x1):=(blk_cell HX0.out 1).trans rfl
 have e2:wx.cell? ⟨wx0.heap.size,2,none⟩ = some (.int .u8 x2):=(blk_cell HX0.out 2).trans rfl
 have e3:wx.cell? ⟨wx0.heap.size,3,none⟩ = some (.int .u8 x3):=(blk_cell HX0.out 3).trans rfl
 have t0:x0.tmod 3 = x0 % 3:=Int.tmod_eq_emod_of_nonneg p00
 have t1:x1.tmod 20 = x1 % 20:=Int.tmod_eq_emod_of_nonneg p10
 have t2:x2.tmod 10 = x2 % 10:=Int.tmod_eq_emod_of_nonneg p20
 have t3:x3.tmod 4 = x3 % 4:=Int.tmod_eq_emod_of_nonneg p30
 have t4:IntKind.i64.wrap (x0 % 3) = x0 % 3:=IntWalk.i64_in _ (by omega)
 have t5:IntKind.i64.wrap (x1 % 20) = x1 % 20:=IntWalk.i64_in _ (by omega)
 have t6:IntKind.i64.wrap (x2 % 10) = x2 % 10:=IntWalk.i64_in _ (by omega)
 have t7:IntKind.i64.wrap (x3 % 4) = x3 % 4:=IntWalk.i64_in _ (by omega)
 have t8:IntKind.i64.wrap (1 + x0 % 3) = 1 + x0 % 3:=IntWalk.i64_in _ (by omega)
 have t9:IntKind.i64.wrap (x3 % 4 * 1000000) = x3 % 4 * 1000000:=IntWalk.i64_in _ (by omega)
 have t10:(x3 % 4 * 1000000).tdiv 4 = x3 % 4 * 1000000 / 4:=Int.tdiv_eq_ediv_of_nonneg (by omega)
 have t11:IntKind.i64.wrap (x3 % 4 * 1000000 / 4) = x3 % 4 * 1000000 / 4:=IntWalk.i64_in _ (by omega)
 have n0:(0:Int) ≤ (i:Int):=by omega
 have n1:(i:Int) < 4:=by omega
 refine start_ (n:=26) (S:=fun w'=>Below wx.heap.size wx w') (ds:=[25]) (bq 26 0) (by kernel_rfl) rfl rfl (Below.refl _ _).drew (fun hHeld=>?_)
 refine with_tabW cfgT.tab10 cfgT.bits10 (fun HT_ HW_=>?_)
 generalize wx.drew = wd at hHeld ⊢
 refine pu_ 1 (some 79) (bq 26 2) HT_ rfl rfl ?_ (hQ:=fun _ _ _ h=>hQ _ _ _ _ _ h)
 refine pu_ 4 (some 82) (bq 26 18) HT_ rfl rfl ?_ (hQ:=fun _ _ _ h=>hQ _ _ _ _ _ h)
 refine tk_ 5 (some 83) (bq 26 50) HT_ HW_ rfl rfl hHeld ?_ (by intro w' hS;replace e0:=below_at hS e0;go_simp;with_reducible rfl) (hQ:=fun _ _ _ h=>hQ _ _ _ _ _ h)
 refine pu_ 6 (some 84) (bq 26 114) HT_ rfl rfl ?_ (hQ:=fun _ _ _ h=>hQ _ _ _ _ _ h)
 refine pu_ 7 (some 85) (bq 26 242) HT_ rfl rfl ?_ (hQ:=fun _ _ _ h=>hQ _ _ _ _ _ h)
 refine pu_ 8 (some 86) (bq 26 498) HT_ rfl rfl ?_ (hQ:=fun _ _ _ h=>hQ _ _ _ _ _ h)
 refine pu_ 9 (some 87) (bq 26 1010) HT_ rfl rfl ?_ (hQ:=fun _ _ _ h=>hQ _ _ _ _ _ h)
 refine tk_ 10 (some 88) (bq 26 2034) HT_ HW_ rfl rfl hHeld ?_ (by intro w' hS;replace e1:=below_at hS e1;go_simp;with_reducible rfl) (hQ:=fun _ _ _ h=>hQ _ _ _ _ _ h)
 refine pu_ 11 (some 89) (bq 26 4082) HT_ rfl rfl ?_ (hQ:=fun _ _ _ h=>hQ _ _ _ _ _ h)
 refine pu_ 12 (some 90) (bq 26 8178) HT_ rfl rfl ?_ (hQ:=fun _ _ _ h=>hQ _ _ _ _ _ h)
 refine pu_ 13 (some 91) (bq 26 16370) HT_ rfl rfl ?_ (hQ:=fun _ _ _ h=>hQ _ _ _ _ _ h)
 refine tk_ 14 (some 92) (bq 26 32754) HT_ HW_ rfl rfl hHeld ?_ (by intro w' hS;replace e2:=below_at hS e2;go_simp;with_reducible rfl) (hQ:=fun _ _ _ h=>hQ _ _ _ _ _ h)
 refine pu_ 15 (some 93) (bq 26 65522) HT_ rfl rfl ?_ (hQ:=fun _ _ _ h=>hQ _ _ _ _ _ h)
 refine pu_ 16 (some 94) (bq 26 131058) HT_ rfl rfl ?_ (hQ:=fun _ _ _ h=>hQ _ _ _ _ _ h)
 refine pu_ 17 (some 95) (bq 26 262130) HT_ rfl rfl ?_ (hQ:=fun _ _ _ h=>hQ _ _ _ _ _ h)
 refine tk_ 18 (some 96) (bq 26 524274) HT_ HW_ rfl rfl hHeld ?_ (by intro w' hS;replace e3:=below_at hS e3;go_simp;with_reducible rfl) (hQ:=fun _ _ _ h=>hQ _ _ _ _ _ h)
 refine pu_ 19 (some 97) (bq 26 1048562) HT_ rfl rfl ?_ (hQ:=fun _ _ _ h=>hQ _ _ _ _ _ h)
 refine pu_ 20 (some 98) (bq 26 2097138) HT_ rfl rfl ?_ (hQ:=fun _ _ _ h=>hQ _ _ _ _ _ h)
 refine pu_ 21 (some 99) (bq 26 4194290) HT_ rfl rfl ?_ (hQ:=fun _ _ _ h=>hQ _ _ _ _ _ h)
 refine pu_ 22 (some 100) (bq 26 8388594) HT_ rfl rfl ?_ (hQ:=fun _ _ _ h=>hQ _ _ _ _ _ h)
 refine join_ (σ:=Nat × Nat) 1 (bq 26 33554431) (fun s=>[(78,.slice (some ⟨s.1,0,none⟩) 4 4),(80,.pointer (some ⟨s.1,i,none⟩)),(81,.string (nm4 i)),(101,.agg #[.string (nm4 i),.int .i64 (1 + x0 % 3),.int .i64 (x1 % 20),.int .i64 (x2 % 10),.int .i64 (x3 % 4 * 1000000 / 4),.slice none 0 0]),(8,.pointer (some ⟨s.2,0,none⟩))]) (fun s w'=>Below wx.heap.size wx w'∧w'.heap[s.2]? = some (.cells #[.string ⟨#[]⟩,.int .i64 0,.int .i64 0,.int .i64 0,.int .i64 0,.slice none 0 0] 51 (0,0))∧wx.heap.size ≤ s.2) ?_ ?_
 rotate_left
 ·intro hCont
  refine two_ (i:=0) (j:=24) (Ni:=some 78) (Nj:=some 8) (bq 26 8388595) (bq 26 25165810) rfl rfl rfl rfl (two_of HT_.out (by kernel_rfl)) (by decide) (by decide) (fun K hK=>?_) (fun K hK=>?_)
  ·refine goes_ Tryz.func11 (by kernel_rfl) rfl #[] (by rfl) rfl rfl (by (try simp only [List.map_toArray,List.map_cons,List.map_nil]);first | done | rfl) ?_
   with_reducible refine (names_any _).mono ?_
   rintro e wn ⟨rfl,hN,hb⟩
   refine ⟨_,rfl,?_⟩
   generalize hnb:wd.heap.size = nb at hN ⊢
   have hk:=hN i (by omega)
   clear hN
   replace hHeld:=below_step hHeld hb
   clear hb
   refine hK.out _ _ hHeld (fun hHeld=>?_)
   clear hK K
   refine norm_ (a':=?_) ?_ ?_
   rotate_left
   ·show Act.put _ (some 78) _ = _
    simp only [Act.put,List.setIfInBounds_toArray,List.set_cons_zero,List.set_cons_succ,i64_w,i32_w]
    rfl
   refine pu_ 2 (some 80) (bq 26 8388599) HT_ rfl rfl ?_ (hQ:=fun _ _ _ h=>hQ _ _ _ _ _ h)
   refine two_ (i:=3) (j:=24) (Ni:=some 81) (Nj:=some 8) (bq 26 8388607) (bq 26 25165815) rfl rfl rfl rfl (two_of HT_.out (by kernel_rfl)) (by decide) (by decide) (fun K hK=>?_) (fun K hK=>?_)
   ·rw [if_pos (by rfl)]
    go_simp
    refine hK.out _ _ hHeld (fun hHeld=>?_)
    clear hK K
    refine pu_ 23 (some 101) (bq 26 16777215) HT_ rfl rfl ?_ (hQ:=fun _ _ _ h=>hQ _ _ _ _ _ h)
    refine one_ (i:=24) (N:=some 8) (bq 26 33554431) rfl rfl (one_of HT_.out (by kernel_rfl)) (by decide) (fun K hK=>?_)
    refine box_step ?hg (N:=8) ?hd (cs:=#[.string ⟨#[]⟩,.int .i64 0,.int .i64 0,.int .i64 0,.int .i64 0,.slice none 0 0]) (t:=51) ?hr ?_;(case hd=>rfl);(case hg=>rfl);(case hr=>first | (go_simp;done) | (go_simp;rfl))
    intro sb hsb ws hbx hb
    have hge:wx.heap.size ≤ sb:=by rw [hsb];exact hHeld.size
    clear hsb
    replace hHeld:=below_step hHeld hb
    clear hb
    refine hK.out _ _ hHeld (fun hHeld=>?_)
    clear hK K
    refine norm_ (a':=?_) ?_ ?_
    rotate_left
    ·show Act.put _ (some 8) _ = _
     simp only [Act.put,List.setIfInBounds_toArray,List.set_cons_zero,List.set_cons_succ,i64_w,i32_w]
     rfl
    exact norm_ (by simp only [putAll,Act.put,List.setIfInBounds_toArray,List.set_cons_zero,List.set_cons_succ]) (hCont (nb,sb) _ ⟨hHeld,hbx,hge⟩)
   ·refine box_step ?hg (N:=8) ?hd (cs:=#[.string ⟨#[]⟩,.int .i64 0,.int .i64 0,.int .i64 0,.int .i64 0,.slice none 0 0]) (t:=51) ?hr ?_;(case hd=>rfl);(case hg=>rfl);(case hr=>first | (go_simp;done) | (go_simp;rfl))
    intro sb hsb ws hbx hb
    have hge:wx.heap.size ≤ sb:=by rw [hsb];exact hHeld.size
    clear hsb
    replace hHeld:=below_step hHeld hb
    replace hk:=below_at hb hk
    clear hb
    refine hK.out _ _ hHeld (fun hHeld=>?_)
    clear hK K
    refine norm_ (a':=?_) ?_ ?_
    rotate_left
    ·show Act.put _ (some 8) _ = _
     simp only [Act.put,List.setIfInBounds_toArray,List.set_cons_zero,List.set_cons_succ,i64_w,i32_w]
     rfl
    refine one_ (i:=3) (N:=some 81) (bq 26 25165823) rfl rfl (one_of HT_.out (by kernel_rfl)) (by decide) (fun K hK=>?_)
    rw [if_pos (by rfl)]
    go_simp
    refine hK.out _ _ hHeld (fun hHeld=>?_)
    clear hK K
    refine pu_ 23 (some 101) (bq 26 33554431) HT_ rfl rfl ?_ (hQ:=fun _ _ _ h=>hQ _ _ _ _ _ h)
    exact norm_ (by simp only [putAll,Act.put,List.setIfInBounds_toArray,List.set_cons_zero,List.set_cons_succ]) (hCont (nb,sb) _ ⟨hHeld,hbx,hge⟩)
  ·refine box_step ?hg (N:=8) ?hd (cs:=#[.string ⟨#[]⟩,.int .i64 0,.int .i64 0,.int .i64 0,.int .i64 0,.slice none 0 0]) (t:=51) ?hr ?_;(case hd=>rfl);(case hg=>rfl);(case hr=>first | (go_simp;done) | (go_simp;rfl))
   intro sb hsb ws hbx hb
   have hge:wx.heap.size ≤ sb:=by rw [hsb];exact hHeld.size
   clear hsb
   replace hHeld:=below_step hHeld hb
   clear hb
   refine hK.out _ _ hHeld (fun hHeld=>?_)
   clear hK K
   refine norm_ (a':=?_) ?_ ?_
   rotate_left
   ·show Act.put _ (some 8) _ = _
    simp only [Act.put,List.setIfInBounds_toArray,List.set_cons_zero,List.set_cons_succ,i64_w,i32_w]
    rfl
   refine one_ (i:=0) (N:=some 78) (bq 26 25165811) rfl rfl (one_of HT_.out (by kernel_rfl)) (by decide) (fun K hK=>?_)
   refine goes_ Tryz.func11 (by kernel_rfl) rfl #[] (by rfl) rfl rfl (by (try simp only [List.map_toArray,List.map_cons,List.map_nil]);first | done | rfl) ?_
   with_reducible refine (names_any _).mono ?_
   rintro e wn ⟨rfl,hN,hb⟩
   refine ⟨_,rfl,?_⟩
   generalize hnb:ws.heap.size = nb at hN ⊢
   have hk:=hN i (by omega)
   clear hN
   replace hbx:=blk_below hbx hb
   replace hHeld:=below_step hHeld hb
   clear hb
   refine hK.out _ _ hHeld (fun hHeld=>?_)
   clear hK K
   refine norm_ (a':=?_) ?_ ?_
   rotate_left
   ·show Act.put _ (some 78) _ = _
    simp only [Act.put,List.setIfInBounds_toArray,List.set_cons_zero,List.set_cons_succ,i64_w,i32_w]
    rfl
   refine pu_ 2 (some 80) (bq 26 25165815) HT_ rfl rfl ?_ (hQ:=fun _ _ _ h=>hQ _ _ _ _ _ h)
   refine one_ (i:=3) (N:=some 81) (bq 26 25165823) rfl rfl (one_of HT_.out (by kernel_rfl)) (by decide) (fun K hK=>?_)
   rw [if_pos (by rfl)]
   go_simp
   refine hK.out _ _ hHeld (fun hHeld=>?_)
   clear hK K
   refine pu_ 23 (some 101) (bq 26 33554431) HT_ rfl rfl ?_ (hQ:=fun _ _ _ h=>hQ _ _ _ _ _ h)
   exact norm_ (by simp only [putAll,Act.put,List.setIfInBounds_toArray,List.set_cons_zero,List.set_cons_succ]) (hCont (nb,sb) _ ⟨hHeld,hbx,hge⟩)
 rintro ⟨nb,sb⟩ w5 ⟨hHeld,hbx,hge⟩
 dsimp only at hbx hge
 have hK5:=Aside0.mk hbx
 have c0:=(blk_cell hbx 0).trans rfl
 have c1:=(blk_cell hbx 1).trans rfl
 have c2:=(blk_cell hbx 2).trans rfl
 have c3:=(blk_cell hbx 3).trans rfl
 have c4:=(blk_cell hbx 4).trans rfl
 have c5:=(blk_cell hbx 5).trans rfl
 have d0:=blk_frozen hbx 0
 have d1:=blk_frozen hbx 1
 have d2:=blk_frozen hbx 2
 have d3:=blk_frozen hbx 3
 have d4:=blk_frozen hbx 4
 have d5:=blk_frozen hbx 5
 clear hbx
 refine norm_ (a':=?_) ?_ ?_
 rotate_left
 ·simp only [putAll,Act.put,List.setIfInBounds_toArray,List.set_cons_zero,List.set_cons_succ]
  rfl
 refine last_ (i:=25) (N:=none) (bq 26 67108863) rfl rfl (one_of HT_.out (by kernel_rfl)) (by decide) (fun K hK=>?_)
 rw [if_pos (by rfl)]
 go_simp
 refine hK.out _ _ ?_
 clear hK K
 refine done_ (done_of HT_.out (by kernel_rfl)) ?_
 clear t0 t1 t2 t3 t4 t5 t6 t7 t8 t9 t10 t11
 go_wp2
 refine HKK.out ?_
 exact ⟨sb,rfl,⟨fill6 hK5.out _ _ _ _ _ _⟩,⟨hge⟩,⟨below6 hHeld hge _ _ _ _ _ _⟩⟩
set_option maxHeartbeats 16000000 in
set_option maxRecDepth 100000 in
theorem config_part11 (p:Plan) (i:Nat) (x0 x1 x2 x3 x4:Int) (wx0 wx wc:World) (sb:Nat) (HSB:Aside0 (wc.heap[sb]? = some (.cells #[.string (nm4 i),.int .i64 (1 + x0 % 3),.int .i64 (x1 % 20),.int .i64 (x2 % 10),.int .i64 (x3 % 4 * 1000000 / 4),nilV] 51 (0,0)))) (HGE:Aside0 (wx.heap.size ≤ sb)) (HBW:Aside0 (Below wx.heap.size wx wc)) (HX1:Aside0 (wc.heap[wx0.heap.size]? = some (.cells #[.int .u8 x0,.int .u8 x1,.int .u8 x2,.int .u8 x3,.int .u8 x4] 47 (0,0)))) (HXW:Aside0 (wx.heap[wx0.heap.size]? = some (.cells #[.int .u8 x0,.int .u8 x1,.int .u8 x2,.int .u8 x3,.int .u8 x4] 47 (0,0)))) (hn4:p.n ≤ 4) (hlt:i < p.n) (p40:0 ≤ x4) (p41:x4 ≤ 255) {q0 q1 q2 q3 q4 q10 q11 q12 q13 q14 q15 q16 q17 q18 q19 q20 q21 q22 q23 q24 q25 q26 q27 q28 q29 q30 q31 q32 q33 q34 q35 q36 q37 q38 q39 q40 q41 q42 q43 q44 q45 q46 q47 q48 q49 q50 q51 q52 q53 q54 q55 q56 q57 q58 q59 q60 q61 q62 q63 q64 q65 q66 q67 q68 q69 q70 q71 q72 q73 q74 q75 q76 q77 q78 q79 q80 q81 q82 q83 q84 q85 q86 q87 q88 q89 q90 q91 q92 q93 q94 q95 q96 q97 q98 q99 q100 q101 q102 q103 q104 q105 q106 q107 q108 q109 q110 q111 q112 q113 q114 q115 q116 q117 q118 q119 q120 q121 q122 q123 q124 q125 q126 q127 q128 q129 q130 q131 q132 q133 q134 q135 q136 q137 q138 q139 q140 q141 q142 q143 q144 q145 q146 q147 q148 q149 q150 q151 q152 q153 q154 q155 q156 q157 q158 q159 q160 q161 q162 q163 q164 q165 q166 q167 q168 q169 q170 q171 q172 q173 q174 q175 q176 q177 q178 q179 q180 q181 q182 q183 q184 q185 q186 q187 q188 q189 q190 q191 q192 q193 q194 q195 q196 q197 q198 q199 q200 q201 q202 q203 q204 q205 q206 q207 q208 q209 q210 q211 q212 q213 q214 q215 q216 q217 q218 q219 q220 q221 q222 q223 q224 q225 q226 q227 q228 q229 q230 q231 q232 q233 q234 q235 q236 q237 q238 q239 q240 q241 q242 q243 q244 q245:Value} (Q:Exit→Act→World→Prop) (hQ:∀ x (a:Act) N v w,Q (Exit.panic x) (Act.put a N v) w→Q (Exit.panic x) a w) (KK:Act→World→Prop) (HKK:Aside0 (∀ {r8 r9 r102 r103 r104 r105 r106 r107 r108 r109 r110 r111 r112 r113 r114 r115 r116 r117 r118 r119 r120 r121 r122 r123 r124 r125 r126 r127 r128 r129 r130 r131 r132:Value} {wz:World},(∃ v:Value,r8 = .pointer (some ⟨sb,0,none⟩)∧Aside0 (wz.heap[sb]? = some (.cells #[.string (nm4 i),.int .i64 (1 + x0 % 3),.int .i64 (x1 % 20),.int .i64 (x2 % 10),.int .i64 (x3 % 4 * 1000000 / 4),v] 51 (0,0)))∧Aside0 (Kd.R Kd.string 9 wz wx.heap.size (fun _=>True) v (callsOf p.n i x4 3))∧Aside0 (Below wx.heap.size wx wz))→KK { tmps:=List.toArray (q0::q1::q2::q3::q4::(.int .i64 (p.n:Int))::(.int .i64 (i:Int))::(.pointer (some ⟨wx0.heap.size,0,none⟩))::(r8)::(r9)::q10::q11::q12::q13::q14::q15::q16::q17::q18::q19::q20::q21::q22::q23::q24::q25::q26::q27::q28::q29::q30::q31::q32::q33::q34::q35::q36::q37::q38::q39::q40::q41::q42::q43::q44::q45::q46::q47::q48::q49::q50::q51::q52::q53::q54::q55::q56::q57::q58::q59::q60::q61::q62::q63::q64::q65::q66::q67::q68::q69::q70::q71::q72::q73::q74::q75::q76::q77::q78::q79::q80::q81::q82::q83::q84::q85::q86::q87::q88::q89::q90::q91::q92::q93::q94::q95::q96::q97::q98::q99::q100::q101::(r102)::(r103)::(r104)::(r105)::(r106)::(r107)::(r108)::(r109)::(r110)::(r111)::(r112)::(r113)::(r114)::(r115)::(r116)::(r117)::(r118)::(r119)::(r120)::(r121)::(r122)::(r123)::(r124)::(r125)::(r126)::(r127)::(r128)::(r129)::(r130)::(r131)::(r132)::q133::q134::q135::q136::q137::q138::q139::q140::q141::q142::q143::q144::q145::q146::q147::q148::q149::q150::q151::q152::q153::q154::q155::q156::q157::q158::q159::q160::q161::q162::q163::q164::q165::q166::q167::q168::q169::q170::q171::q172::q173::q174::q175::q176::q177::q178::q179::q180::q181::q182::q183::q184::q185::q186::q187::q188::q189::q190::q191::q192::q193::q194::q195::q196::q197::q198::q199::q200::q201::q202::q203::q204::q205::q206::q207::q208::q209::q210::q211::q212::q213::q214::q215::q216::q217::q218::q219::q220::q221::q222::q223::q224::q225::q226::q227::q228::q229::q230::q231::q232::q233::q234::q235::q236::q237::q238::q239::q240::q241::q242::q243::q244::q245::[]),defers:=[] } wz)):
  Code.wp Tryz.prog blk2.1 (Exit.then KK Q) { tmps:=List.toArray (q0::q1::q2::q3::q4::(.int .i64 (p.n:Int))::(.int .i64 (i:Int))::(.pointer (some ⟨wx0.heap.size,0,none⟩))::(.pointer (some ⟨sb,0,none⟩))::(.int .i64 0)::q10::q11::q12::q13::q14::q15::q16::q17::q18::q19::q20::q21::q22::q23::q24::q25::q26::q27::q28::q29::q30::q31::q32::q33::q34::q35::q36::q37::q38::q39::q40::q41::q42::q43::q44::q45::q46::q47::q48::q49::q50::q51::q52::q53::q54::q55::q56::q57::q58::q59::q60::q61::q62::q63::q64::q65::q66::q67::q68::q69::q70::q71::q72::q73::q74::q75::q76::q77::q78::q79::q80::q81::q82::q83::q84::q85::q86::q87::q88::q89::q90::q91::q92::q93::q94::q95::q96::q97::q98::q99::q100::q101::q102::q103::q104::q105::q106::q107::q108::q109::q110::q111::q112::q113::q114::q115::q116::q117::q118::q119::q120::q121::q122::q123::q124::q125::q126::q127::q128::q129::q130::q131::q132::q133::q134::q135::q136::q137::q138::q139::q140::q141::q142::q143::q144::q145::q146::q147::q148::q149::q150::q151::q152::q153::q154::q155::q156::q157::q158::q159::q160::q161::q162::q163::q164::q165::q166::q167::q168::q169::q170::q171::q172::q173::q174::q175::q176::q177::q178::q179::q180::q181::q182::q183::q184::q185::q186::q187::q188::q189::q190::q191::q192::q193::q194::q195::q196::q197::q198::q199::q200::q201::q202::q203::q204::q205::q206::q207::q208::q209::q210::q211::q212::q213::q214::q215::q216::q217::q218::q219::q220::q221::q222::q223::q224::q225::q226::q227::q228::q229::q230::q231::q232::q233::q234::q235::q236::q237::q238::q239::q240::q241::q242::q243::q244::q245::[]),defers:=[] } wc:=by
 let Qb:Exit→Act→World→Prop:=bodyPost Tryz.prog Tryz.f4 (fun _ _=>True)
 dsimp only [blk2]
 go_wp2_with fail
 go_loopg [9] 3 (fun gg s9 wr=>∃ (k:Nat) (v:Value),k ≤ 3∧3 - k ≤ gg∧s9 = .int .i64 (k:Int)∧Aside0 (wr.heap[sb]? = some (.cells #[.string (nm4 i),.int .i64 (1 + x0 % 3),.int .i64 (x1 % 20),.int .i64 (x2 % 10),.int .i64 (x3 % 4 * 1000000 / 4),v] 51 (0,0)))∧Aside0 (Kd.R Kd.string 9 wr wx.heap.size (fun _=>True) v (callsOf p.n i x4 k))∧Aside0 (Below wx.heap.size wx wr)∧Aside0 (wr.heap[wx0.heap.size]? = some (.cells #[.int .u8 x0,.int .u8 x1,.int .u8 x2,.int .u8 x3,.int .u8 x4] 47 (0,0))))
 case atStart=>exact ⟨0,nilV,by omega,by omega,by rfl,HSB,⟨Kd.R_nil _ _ _ _ _⟩,HBW,HX1⟩
 case round=>
  clear HSB HBW HX1
  obtain ⟨k,v,hk,hgk,rfl,HSB,HRV,HBW,HX1⟩:=hrel
  by_cases hc:k < 3∧i + 1 + k < p.n
  ·obtain ⟨hk3,hkn⟩:=hc
   have e4:wr.cell? ⟨wx0.heap.size,4,none⟩ = some (.int .u8 x4):=(blk_cell HX1.out 4).trans rfl
   have q1:decide ((k:Int) < 3) = true:=by simp;omega
   have q2:(i:Int) + 1 + (k:Int) < (p.n:Int):=by omega
   have q3:IntKind.i64.wrap ((i:Int) + 1) = (i:Int) + 1:=IntWalk.i64_in _ (by omega)
   have q4:IntKind.i64.wrap ((i:Int) + 1 + (k:Int)) = (i:Int) + 1 + (k:Int):=IntWalk.i64_in _ (by omega)
   go_upto_region 14 with fail
   go_cut [120] (fun s120 wz=>s120 = .bool (bitOf x4 k)∧wz = wr)
   case first=>
    match k,hk3 with
    | 0,_=>
     have hbt:=Aside0.mk (bit_eq x4 0 p40 p41)
     go_wp2
     go_meet
     exact ⟨congrArg Value.bool (by have:=hbt.out;simpa using this),rfl⟩
    | 1,_=>
     have hbt:=Aside0.mk (bit_eq x4 1 p40 p41)
     go_wp2
     go_meet
     exact ⟨congrArg Value.bool (by have:=hbt.out;simpa using this),rfl⟩
    | 2,_=>
     have hbt:=Aside0.mk (bit_eq x4 2 p40 p41)
     go_wp2
     go_meet
     exact ⟨congrArg Value.bool (by have:=hbt.out;simpa using this),rfl⟩
   case rest=>
    obtain ⟨rfl,rfl⟩:=hcut
    have HC:=Aside0.mk (callsOf_succ p.n i x4 k)
    have HKN:=Aside0.mk hkn
    cases hbit:bitOf x4 k with
    | false=>
     rw [hbit] at HC
     have HE:Aside0 (callsOf p.n i x4 (k + 1) = callsOf p.n i x4 k):=⟨by rw [HC.out,if_neg (by simp)]⟩
     clear hbit q2 q3 q4
     go_wp2
     go_roundg (3 - (k + 1))
     case measure=>omega
     case rel=>exact ⟨k + 1,v,by omega,by omega,by go_num,HSB,⟨by rw [HE.out];exact HRV.out⟩,HBW,HX1⟩
    | true=>
     rw [hbit] at HC
     have HE:Aside0 (callsOf p.n i x4 (k + 1) = callsOf p.n i x4 k ++ [nm4 (i + 1 + k)]):=⟨by rw [HC.out,if_pos ⟨HKN.out,rfl⟩]⟩
     obtain ⟨AV,cV,rfl⟩:=Kd.R_slice HRV.out
     have hlv:=callsOf_len p.n i x4 k
     generalize callsOf p.n i x4 k = cs at HSB HRV HE hlv
     clear hbit e4 HC
     have f5:wc.cell? ⟨sb,5,none⟩ = some (.slice AV cs.length cV):=(blk_cell HSB.out 5).trans rfl
     have z5:=blk_frozen HSB.out 5
     have n0:(0:Int) ≤ (i:Int) + 1 + (k:Int):=by omega
     have n1:(i:Int) + 1 + (k:Int) < 4:=by omega
     have n2:((i:Int) + 1 + (k:Int)).toNat = i + 1 + k:=by omega
     go_wp2_with fail
     refine start_ (n:=13) (S:=fun w'=>Below wc.heap.size wc w') (ds:=[10,12]) (bq 13 0) (by kernel_rfl) rfl rfl (Below.refl _ _).drew (fun hHeld=>?_)
     refine with_tabW cfgT.tab15 cfgT.bits15 (fun HT_ HW_=>?_)
     generalize wc.drew = wd at hHeld ⊢
     refine pu_ 0 (some 121) (bq 13 1) HT_ rfl rfl ?_ (hQ:=fun _ _ _ h=>hQ _ _ _ _ _ h)
     refine tk_ 1 (some 122) (bq 13 3) HT_ HW_ rfl rfl hHeld ?_ (by intro w' hS;replace f5:=below_at hS f5;go_simp;with_reducible rfl) (hQ:=fun _ _ _ h=>hQ _ _ _ _ _ h)
     refine pu_ 3 (some 124) (bq 13 11) HT_ rfl rfl ?_ (hQ:=fun _ _ _ h=>hQ _ _ _ _ _ h)
     refine pu_ 4 (some 125) (bq 13 27) HT_ rfl rfl ?_ (hQ:=fun _ _ _ h=>hQ _ _ _ _ _ h)
     refine pu_ 5 (some 126) (bq 13 59) HT_ rfl rfl ?_ (hQ:=fun _ _ _ h=>hQ _ _ _ _ _ h)
     refine pu_ 6 (some 127) (bq 13 123) HT_ rfl rfl ?_ (hQ:=fun _ _ _ h=>hQ _ _ _ _ _ h)
     refine one_ (i:=2) (N:=some 123) (bq 13 127) rfl rfl (one_of HT_.out (by kernel_rfl)) (by decide) (fun K hK=>?_)
     refine goes_ Tryz.func11 (by kernel_rfl) rfl #[] (by rfl) rfl rfl (by (try simp only [List.map_toArray,List.map_cons,List.map_nil]);first | done | rfl) ?_
     with_reducible refine (names_any _).mono ?_
     rintro e wn ⟨rfl,hN,hb⟩
     refine ⟨_,rfl,?_⟩
     generalize hnb:wd.heap.size = nb at hN ⊢
     have hk:=hN (i + 1 + k) (by omega)
     clear hN
     replace hHeld:=below_step hHeld hb
     clear hb
     refine hK.out _ _ hHeld (fun hHeld=>?_)
     clear hK K
     refine norm_ (a':=?_) ?_ ?_
     rotate_left
     ·show Act.put _ (some 123) _ = _
      simp only [Act.put,List.setIfInBounds_toArray,List.set_cons_zero,List.set_cons_succ,i64_w,i32_w]
      rfl
     refine pu_ 7 (some 128) (bq 13 255) HT_ rfl rfl ?_ (hQ:=fun _ _ _ h=>hQ _ _ _ _ _ h)
     refine one_ (i:=8) (N:=some 129) (bq 13 511) rfl rfl (one_of HT_.out (by kernel_rfl)) (by decide) (fun K hK=>?_)
     rw [if_pos (by rfl)]
     go_simp
     refine hK.out _ _ hHeld (fun hHeld=>?_)
     clear hK K
     refine one_ (i:=9) (N:=some 130) (bq 13 1023) rfl rfl (one_of HT_.out (by kernel_rfl)) (by decide) (fun K hK=>?_)
     refine Kd.R_lit_step Kd.string (w0:=wc) wc.heap.size 9 (by rfl) (N:=130) rfl (xs:=[nm4 (i + 1 + k)]) (inner:=[.string (nm4 (i + 1 + k))]) (ok:=fun _=>True) (okp:=fun _=>False) (by go_simp) ((Reps.none _ _).snoc rfl rfl) (fun _ h=>h.elim) trivial hHeld hHeld.size (by simp) ?_
     intro v54 W54 hr54 hb54 hg54 ho54
     refine hK.out _ _ hb54 (fun hHeld=>?_)
     clear hK K
     refine norm_ (a':=?_) ?_ ?_
     rotate_left
     ·show Act.put _ (some 130) _ = _
      simp only [Act.put,List.setIfInBounds_toArray,List.set_cons_zero,List.set_cons_succ,i64_w,i32_w]
      rfl
     obtain ⟨A5,c5,e5,_,hc5⟩:=Kd.R_reads hr54
     subst e5
     have hC5:=Aside0.mk hc5
     have hsW:=Aside0.mk (blk_below HSB.out hHeld)
     have hxW:=Aside0.mk (blk_below HX1.out hHeld)
     have hrW:=Aside0.mk (Kd.R_below HRV.out hHeld)
     have hbW:=Aside0.mk (below_step HBW.out hHeld)
     clear hc5 hr54 ho54 hg54 f5 z5
     refine last_ (i:=10) (N:=some 131) (bq 13 2047) rfl rfl (one_of HT_.out (by kernel_rfl)) (by decide) (fun K hK=>?_)
     refine Kd.R_append_rows_step Kd.string (Rr:=Kd.string.K _) (w0:=wx) wx.heap.size (by rfl) (.tmp 122) (.tmp 130) 48 9 _ 16 rfl Tryz.underlying48 info9 rfl (by decide) (by decide) (.slice AV cs.length cV) cs [nm4 (i + 1 + k)] A5 1 c5 (fun _=>True) (fun _=>False) (by rfl) (by rfl) hrW.out (by exact hC5.out) (fun x cs h=>h) (fun _ h=>h.elim) (fun _ _=>trivial) hbW.out hbW.out.size (by omega) ?_
     intro v55 W55 hr55 hb55 hg55 ho55
     refine hK.out _ _ ?_
     clear hK K
     refine norm_ (a':=?_) ?_ ?_
     rotate_left
     ·show Act.put _ (some 131) _ = _
      simp only [Act.put,List.setIfInBounds_toArray,List.set_cons_zero,List.set_cons_succ,i64_w,i32_w]
      rfl
     obtain ⟨A6,c6,e6⟩:=Kd.R_slice hr55
     rw [List.length_append,List.length_singleton] at e6
     subst e6
     have hs5:=blk_grown hsW.out hg55 (Kd.R_ne hrW.out hsW.out (by decide))
     have hx5:=Aside0.mk (blk_grown hxW.out hg55 (Kd.R_ne hrW.out hxW.out (by decide)))
     have f5:=(blk_cell hs5 5).trans rfl
     have z5:=blk_frozen hs5 5
     have HS5:=Aside0.mk hs5
     have HR5:=Aside0.mk hr55
     have HB5:=Aside0.mk hb55
     clear hs5 hr55 hb55 hg55 ho55 hHeld
     refine pu_ 11 (some 132) (bq 13 4095) HT_ rfl rfl ?_ (hQ:=fun _ _ _ h=>hQ _ _ _ _ _ h)
     refine last_ (i:=12) (N:=none) (bq 13 8191) rfl rfl (one_of HT_.out (by kernel_rfl)) (by decide) (fun K hK=>?_)
     rw [if_pos (by rfl)]
     go_simp
     refine hK.out _ _ ?_
     clear hK K
     refine done_ (done_of HT_.out (by kernel_rfl)) ?_
     clear n0 n1 n2 q2 q3 q4
     go_wp2
     go_roundg (3 - (k + 1))
     case measure=>omega
     case rel=>exact ⟨k + 1,_,by omega,by omega,by go_num,⟨blk_put HS5.out 5 _ rfl⟩,⟨by rw [HE.out];exact Kd.R_set HR5.out HS5.out (by decide) 5 _⟩,⟨HB5.out.setCell (p:=⟨sb,5,none⟩) HGE.out _⟩,⟨blk_far hx5.out (by have:=HGE.out;have:=blk_lt HXW.out;dsimp only;omega) _⟩⟩
  ·have HE:=Aside0.mk (callsOf_end p.n i x4 k hk (by omega))
   by_cases hk3:k < 3
   ·have q1:decide ((k:Int) < 3) = true:=by simp;omega
    have q2:decide ((i:Int) + 1 + (k:Int) < (p.n:Int)) = false:=by simp;omega
    have q3:IntKind.i64.wrap ((i:Int) + 1) = (i:Int) + 1:=IntWalk.i64_in _ (by omega)
    have q4:IntKind.i64.wrap ((i:Int) + 1 + (k:Int)) = (i:Int) + 1 + (k:Int):=IntWalk.i64_in _ (by omega)
    clear hc
    go_wp2
    refine HKK.out ?_
    exact ⟨v,rfl,HSB,⟨by rw [← HE.out];exact HRV.out⟩,HBW⟩
   ·have q1:decide ((k:Int) < 3) = false:=by simp;omega
    clear hc
    go_wp2
    refine HKK.out ?_
    exact ⟨v,rfl,HSB,⟨by rw [← HE.out];exact HRV.out⟩,HBW⟩
set_option maxHeartbeats 16000000 in
set_option maxRecDepth 100000 in
theorem config_part3 (p:Plan) (a:PlanAt) (w wc:World) (v1 v2 s11:Value) {q4 q6 q7 q8 q9 q10 q12 q13 q14 q15 q16 q17 q18 q19 q20 q21 q22 q23 q24 q25 q26 q27 q28 q29 q30 q31 q32 q33 q34 q35 q36 q37 q38 q39 q40 q41 q42 q43 q44 q45 q46 q47 q48 q49 q50 q51 q52 q53 q54 q55 q56 q57 q58 q59 q60 q61 q62 q63 q64 q65 q66 q67 q68 q69 q70 q71 q72 q73 q74 q75 q76 q77 q78 q79 q80 q81 q82 q83 q84 q85 q86 q87 q88 q89 q90 q91 q92 q93 q94 q95 q96 q97 q98 q99 q100 q101 q102 q103 q104 q105 q106 q107 q108 q109 q110 q111 q112 q113 q114 q115 q116 q117 q118 q119 q120 q121 q122 q123 q124 q125 q126 q127 q128 q129 q130 q131 q132 q133 q134 q135 q136 q137 q138 q139 q140 q141 q142 q143 q144 q145 q146 q147 q148 q149 q150 q151 q152 q153 q154 q155 q156 q157 q158 q159 q160 q161 q162 q163 q164 q165 q166 q167 q168 q169 q170 q171 q172 q173 q174 q175 q176 q177 q178 q179 q180 q181 q182 q183 q184 q185 q186 q187 q188 q189 q190 q191 q192 q193 q194 q195 q196 q197 q198 q199 q200 q201 q202 q203 q204 q205 q206 q207 q208 q209 q210 q211 q212 q213 q214 q215 q216 q217 q218 q219 q220 q221 q222 q223 q224 q225 q226 q227 q228 q229 q230 q231 q232 q233 q234 q235 q236 q237 q238 q239 q240 q241 q242 q243 q244 q245:Value} (HR:Aside0 (PlanR w a p)) (HOK:Aside0 (PlanOk p)) (HB3:Aside0 (CfgB w wc (p.cells a) (cfgCells p v1 v2 nilV nilV))) (HS:Aside0 (Kd.R k51 51 wc w.heap.size (fun _=>True) v1 p.sv)) (HO:Aside0 (Kd.R k54 54 wc w.heap.size (fun _=>True) v2 p.offs)) (HT:Aside0 (Kd.R k56 56 wc w.heap.size (fun _=>True) s11 p.sts)):
  Code.wp Tryz.prog tail28.1 (bodyPost Tryz.prog Tryz.f4 (CfgOut w (p.cfg chgs47))) { tmps:=List.toArray ((.agg (p.cells a))::(.pointer (some ⟨w.heap.size,0,none⟩))::(.pointer (some ⟨w.heap.size + 1,0,none⟩))::(.pointer (some ⟨w.heap.size + 2,0,none⟩))::q4::(.int .i64 (p.n:Int))::q6::q7::q8::q9::q10::(s11)::q12::q13::q14::q15::q16::q17::q18::q19::q20::q21::q22::q23::q24::q25::q26::q27::q28::q29::q30::q31::q32::q33::q34::q35::q36::q37::q38::q39::q40::q41::q42::q43::q44::q45::q46::q47::q48::q49::q50::q51::q52::q53::q54::q55::q56::q57::q58::q59::q60::q61::q62::q63::q64::q65::q66::q67::q68::q69::q70::q71::q72::q73::q74::q75::q76::q77::q78::q79::q80::q81::q82::q83::q84::q85::q86::q87::q88::q89::q90::q91::q92::q93::q94::q95::q96::q97::q98::q99::q100::q101::q102::q103::q104::q105::q106::q107::q108::q109::q110::q111::q112::q113::q114::q115::q116::q117::q118::q119::q120::q121::q122::q123::q124::q125::q126::q127::q128::q129::q130::q131::q132::q133::q134::q135::q136::q137::q138::q139::q140::q141::q142::q143::q144::q145::q146::q147::q148::q149::q150::q151::q152::q153::q154::q155::q156::q157::q158::q159::q160::q161::q162::q163::q164::q165::q166::q167::q168::q169::q170::q171::q172::q173::q174::q175::q176::q177::q178::q179::q180::q181::q182::q183::q184::q185::q186::q187::q188::q189::q190::q191::q192::q193::q194::q195::q196::q197::q198::q199::q200::q201::q202::q203::q204::q205::q206::q207::q208::q209::q210::q211::q212::q213::q214::q215::q216::q217::q218::q219::q220::q221::q222::q223::q224::q225::q226::q227::q228::q229::q230::q231::q232::q233::q234::q235::q236::q237::q238::q239::q240::q241::q242::q243::q244::q245::[]),defers:=[] } wc:=by
 have l1:p.parts.length ≤ 9223372036854775807:=HR.out.r1.2.1
 have l2:p.steps.length ≤ 9223372036854775807:=HR.out.r2.2.1
 have l3:p.trs.length ≤ 9223372036854775807:=HR.out.r3.2.1
 have b:=HOK.out
 obtain ⟨⟨s0,s1⟩,⟨o00,o01⟩,⟨o10,o11⟩,⟨o20,o21⟩,⟨f0,f1⟩,⟨g0,g1⟩,⟨h0,h1⟩,⟨i0,i1⟩,⟨j0,j1⟩,⟨k0,k1⟩,⟨m0,m1⟩,B1,B2,B3⟩:=b
 clear B1 B2 B3
 have hn1:=p.n_pos
 have hn4:p.n ≤ 4:=by unfold Plan.n;omega
 dsimp only [tail28]
 obtain ⟨A3,c3,e3⟩:=Kd.R_slice HT.out
 subst e3
 have HCH:=Aside0.mk (Changes_calls A3 c3 p.sts wc (Kd.R_reads' HT.out).2.2 (Plan.sts_ok HOK.out))
 have HCL:Aside0 (p.cfg chgs47 = ⟨p.seed,p.sv,p.offs,chgs47 p.sts,p.flts,p.first % 8,p.first % 8 + p.slots % 4,p.per % 3,p.delay % 6,1 + p.chunk % 8,p.loss % 9 * 1000000 / 8,p.rep % 9 * 1000000 / 8⟩):=⟨rfl⟩
 generalize chgs47 p.sts = cl at HCH HCL
 generalize p.sts.length = ns at HCH ⊢
 clear HT
 go_wp2_with fail
 refine HCH.out.mono ?_
 rintro e w1 ⟨v3,rfl,hv,hb⟩
 obtain ⟨A4,c4,e4⟩:=Kd.R_slice hv
 subst e4
 have HB5:=Aside0.mk (HB3.out.below hb)
 have HS5:=Aside0.mk (Kd.R_below HS.out hb)
 have HO5:=Aside0.mk (Kd.R_below HO.out hb)
 have HV5:=Aside0.mk (Kd.R_lower hv HB3.out.B.size)
 have y1:w1.cell? ⟨w.heap.size + 2,3,none⟩ = some (.slice none 0 0):=(blk_cell HB5.out.C 3).trans rfl
 have y2:w1.frozen? ⟨w.heap.size + 2,3,none⟩ = false:=blk_frozen HB5.out.C 3
 clear HCH hv hb HB3 HS HO
 generalize hvl:Value.slice A4 cl.length c4 = v3 at HV5 ⊢
 have hv3:v3 = Value.slice A4 cl.length c4:=hvl.symm
 clear hvl
 subst hv3
 go_upto_block 8 with fail
 have HB6:=Aside0.mk (HB5.out.set 3 (.slice A4 cl.length c4))
 have HS6:=Aside0.mk (Kd.R_set HS5.out HB5.out.C (by decide) 3 (.slice A4 cl.length c4))
 have HO6:=Aside0.mk (Kd.R_set HO5.out HB5.out.C (by decide) 3 (.slice A4 cl.length c4))
 have HV6:=Aside0.mk (Kd.R_set HV5.out HB5.out.C (by decide) 3 (.slice A4 cl.length c4))
 clear HB5 HS5 HO5 HV5 y1 y2
 generalize w1.setCell ⟨w.heap.size + 2,3,none⟩ (.slice A4 cl.length c4) = w2 at HB6 HS6 HO6 HV6 ⊢
 generalize Value.slice A4 cl.length c4 = v3 at HB6 HV6 ⊢
 have HB6:=Aside0.mk (show CfgB w w2 (p.cells a) (cfgCells p v1 v2 v3 nilV) from HB6.out)
 go_cut [3] (fun s3 wz=>s3 = .pointer (some ⟨w.heap.size + 2,0,none⟩)∧∃ v4,Aside0 (CfgB w wz (p.cells a) (cfgCells p v1 v2 v3 v4))∧Aside0 (Kd.R k51 51 wz w.heap.size (fun _=>True) v1 p.sv)∧Aside0 (Kd.R k54 54 wz w.heap.size (fun _=>True) v2 p.offs)∧Aside0 (Kd.R k98 98 wz w.heap.size (fun _=>True) v3 cl)∧Aside0 (Kd.R k61 61 wz w.heap.size (fun _=>True) v4 p.flts))
 case first=>
  go_wp2_with fail
  go_loopg [14] 3 (fun gg s14 wr=>∃ (i:Nat) (v4:Value),i ≤ p.trs.length∧i ≤ 3∧3 - i ≤ gg∧s14 = .int .i64 (i:Int)∧Aside0 (CfgB w wr (p.cells a) (cfgCells p v1 v2 v3 v4))∧Aside0 (Kd.R k51 51 wr w.heap.size (fun _=>True) v1 p.sv)∧Aside0 (Kd.R k54 54 wr w.heap.size (fun _=>True) v2 p.offs)∧Aside0 (Kd.R k98 98 wr w.heap.size (fun _=>True) v3 cl)∧Aside0 (Kd.R k61 61 wr w.heap.size (fun _=>True) v4 (p.flTo i)))
  case atStart=>exact ⟨0,nilV,Nat.zero_le _,by omega,by omega,by rfl,HB6,HS6,HO6,HV6,⟨Kd.R_nil _ _ _ _ _⟩⟩
  case round=>
   clear HB6 HS6 HO6 HV6
   obtain ⟨i,v4,hi,hi3,hgi,rfl,HB3,HS,HO,HV,HF⟩:=hrel
   obtain ⟨A5,c5,e5⟩:=Kd.R_slice HF.out
   subst e5
   have b6:wr.cell? ⟨w.heap.size,6,none⟩ = some (.slice a.A3 p.trs.length a.c3):=(blk_cell HB3.out.P 6).trans rfl
   by_cases hlt:i < p.trs.length∧i < 3
   ·obtain ⟨hl1,hl2⟩:=hlt
    obtain ⟨ad,e,e0,e1,e2,e3,e4,e5⟩:=cells59 HR.out.r3 i hl1
    have hx:=ok59 HOK.out.trs i hl1
    have HFN:=Aside0.mk (p.flTo_succ i hl1)
    have HFL:=Aside0.mk (p.flTo_len i hi)
    generalize rd_T59 p.trs (i:Int) = x at e0 e1 e2 e3 e4 e5 hx HFN
    obtain ⟨x0,x1,x2,x3,x4,x5⟩:=x
    dsimp only at e0 e1 e2 e3 e4 e5 hx
    obtain ⟨⟨p00,p01⟩,⟨p10,p11⟩,⟨p20,p21⟩,⟨p30,p31⟩,⟨p40,p41⟩,p50,p51⟩:=hx
    rw [e] at b6
    replace e0:=below_at HB3.out.B e0
    replace e1:=below_at HB3.out.B e1
    replace e2:=below_at HB3.out.B e2
    replace e3:=below_at HB3.out.B e3
    replace e4:=below_at HB3.out.B e4
    replace e5:=below_at HB3.out.B e5
    have hz1:(i:Int) < (p.trs.length:Int):=by omega
    have hz2:decide ((i:Int) < 3) = true:=by simp;omega
    clear hi
    go_upto_region 33 with fail
    have hbx:Below wr.heap.size wr (wr.alloc (.cells #[.int .u8 x0,.int .u8 x1,.int .u8 x2,.int .u8 x3,.int .u8 x4,.int .u8 x5] 59)):=below_alloc (Below.refl _ _) _
    have hx0:=blk_new wr (.cells #[.int .u8 x0,.int .u8 x1,.int .u8 x2,.int .u8 x3,.int .u8 x4,.int .u8 x5] 59)
    have hB5:=Aside0.mk (HB3.out.below hbx)
    have hS5:=Aside0.mk (Kd.R_below HS.out hbx)
    have hO5:=Aside0.mk (Kd.R_below HO.out hbx)
    have hV5:=Aside0.mk (Kd.R_below HV.out hbx)
    have hF5:=Aside0.mk (Kd.R_below HF.out hbx)
    clear HB3 HS HO HV HF hbx e0 e1 e2 e3 e4 e5 b6 hz1 hz2
    generalize wr.alloc (.cells #[.int .u8 x0,.int .u8 x1,.int .u8 x2,.int .u8 x3,.int .u8 x4,.int .u8 x5] 59) = wx at hx0 hB5 hS5 hO5 hV5 hF5 ⊢
    generalize wr.heap.size = xb at hx0 ⊢
    have e0:wx.cell? ⟨xb,0,none⟩ = some (.int .u8 x0):=(blk_cell hx0 0).trans rfl
    have e1:wx.cell? ⟨xb,1,none⟩ = some (.int .u8 x1):=(blk_cell hx0 1).trans rfl
    have e2:wx.cell? ⟨xb,2,none⟩ = some (.int .u8 x2):=(blk_cell hx0 2).trans rfl
    have e3:wx.cell? ⟨xb,3,none⟩ = some (.int .u8 x3):=(blk_cell hx0 3).trans rfl
    have e4:wx.cell? ⟨xb,4,none⟩ = some (.int .u8 x4):=(blk_cell hx0 4).trans rfl
    have e5:wx.cell? ⟨xb,5,none⟩ = some (.int .u8 x5):=(blk_cell hx0 5).trans rfl
    have b4:wx.cell? ⟨w.heap.size + 2,4,none⟩ = some (.slice A5 (p.flTo i).length c5):=(blk_cell hB5.out.C 4).trans rfl
    generalize p.flTo i = fl at hB5 hF5 HFN HFL b4
    generalize hnn:p.n = n at hn1 hn4 HFN ⊢
    have HNN:=Aside0.mk hnn
    clear hnn
    have HTR:Aside0 (trOf n ⟨x0,x1,x2,x3,x4,x5⟩ = ⟨nm4 (x0 % n).toNat,ver3 (x1 % 3).toNat,⟨x2 % 8,x2 % 8 + 1 + x3 % 8⟩,x4 % 30,x5 % 3 * 1000000 / 4⟩):=⟨rfl⟩
    generalize trOf n ⟨x0,x1,x2,x3,x4,x5⟩ = tr at HFN HTR
    have hlen:Aside0 ((fl.length + 1) * 64 ≤ 140737488355328):=⟨by rw [HFL.out];omega⟩
    have hn0:(n:Int) ≠ 0:=by omega
    have hn00:n ≠ 0:=by omega
    have r0:0 ≤ x0 % (n:Int):=Int.emod_nonneg _ hn0
    have r1:x0 % (n:Int) < 4:=Int.lt_of_lt_of_le (Int.emod_lt_of_pos _ (by omega)) (by omega)
    have r2:0 ≤ x1 % 3:=by omega
    have r3:x1 % 3 < 3:=by omega
    have t0:IntKind.i64.wrap x0 = x0:=IntWalk.i64_in _ (by omega)
    have t1:x0.tmod (n:Int) = x0 % (n:Int):=Int.tmod_eq_emod_of_nonneg p00
    have t1w:IntKind.i64.wrap (x0 % (n:Int)) = x0 % (n:Int):=IntWalk.i64_in _ (by omega)
    have t2:x1.tmod 3 = x1 % 3:=Int.tmod_eq_emod_of_nonneg p10
    have t3:x2.tmod 8 = x2 % 8:=Int.tmod_eq_emod_of_nonneg p20
    have t4:x3.tmod 8 = x3 % 8:=Int.tmod_eq_emod_of_nonneg p30
    have t5:x4.tmod 30 = x4 % 30:=Int.tmod_eq_emod_of_nonneg p40
    have t6:x5.tmod 3 = x5 % 3:=Int.tmod_eq_emod_of_nonneg p50
    have s2:IntKind.i64.wrap (x2 % 8) = x2 % 8:=IntWalk.i64_in _ (by omega)
    have s3:IntKind.i64.wrap (x2 % 8 + 1) = x2 % 8 + 1:=IntWalk.i64_in _ (by omega)
    have s4:IntKind.i64.wrap (x3 % 8) = x3 % 8:=IntWalk.i64_in _ (by omega)
    have s5:IntKind.i64.wrap (x2 % 8 + 1 + x3 % 8) = x2 % 8 + 1 + x3 % 8:=IntWalk.i64_in _ (by omega)
    have s6:IntKind.i64.wrap (x4 % 30) = x4 % 30:=IntWalk.i64_in _ (by omega)
    have s7:IntKind.i64.wrap (x5 % 3) = x5 % 3:=IntWalk.i64_in _ (by omega)
    have s8:IntKind.i64.wrap (x5 % 3 * 1000000) = x5 % 3 * 1000000:=IntWalk.i64_in _ (by omega)
    have s9:(x5 % 3 * 1000000).tdiv 4 = x5 % 3 * 1000000 / 4:=Int.tdiv_eq_ediv_of_nonneg (by omega)
    have s10:IntKind.i64.wrap (x5 % 3 * 1000000 / 4) = x5 % 3 * 1000000 / 4:=IntWalk.i64_in _ (by omega)
    clear hx0
    refine start_ (n:=46) (S:=fun w'=>Below wx.heap.size wx w') (ds:=[43,45]) (bq 46 0) (by kernel_rfl) rfl rfl (Below.refl _ _).drew (fun hHeld=>?_)
    refine with_tabW cfgT.tab33 cfgT.bits33 (fun HT_ HW_=>?_)
    generalize wx.drew = wd at hHeld ⊢
    refine pu_ 0 (some 200) (bq 46 1) HT_ rfl rfl ?_
    refine tk_ 1 (some 201) (bq 46 3) HT_ HW_ rfl rfl hHeld ?_ (by intro w' hS;replace b4:=below_at hS b4;go_simp;with_reducible rfl)
    refine pu_ 3 (some 203) (bq 46 11) HT_ rfl rfl ?_
    refine tk_ 4 (some 204) (bq 46 27) HT_ HW_ rfl rfl hHeld ?_ (by intro w' hS;replace e0:=below_at hS e0;go_simp;with_reducible rfl)
    refine pu_ 5 (some 205) (bq 46 59) HT_ rfl rfl ?_
    refine pu_ 6 (some 206) (bq 46 123) HT_ rfl rfl ?_
    refine pu_ 7 (some 207) (bq 46 251) HT_ rfl rfl ?_
    refine pu_ 11 (some 211) (bq 46 2299) HT_ rfl rfl ?_
    refine tk_ 12 (some 212) (bq 46 6395) HT_ HW_ rfl rfl hHeld ?_ (by intro w' hS;replace e1:=below_at hS e1;go_simp;with_reducible rfl)
    refine pu_ 13 (some 213) (bq 46 14587) HT_ rfl rfl ?_
    refine pu_ 16 (some 216) (bq 46 80123) HT_ rfl rfl ?_
    refine tk_ 17 (some 217) (bq 46 211195) HT_ HW_ rfl rfl hHeld ?_ (by intro w' hS;replace e2:=below_at hS e2;go_simp;with_reducible rfl)
    refine pu_ 18 (some 218) (bq 46 473339) HT_ rfl rfl ?_
    refine pu_ 19 (some 219) (bq 46 997627) HT_ rfl rfl ?_
    refine pu_ 20 (some 220) (bq 46 2046203) HT_ rfl rfl ?_
    refine tk_ 21 (some 221) (bq 46 4143355) HT_ HW_ rfl rfl hHeld ?_ (by intro w' hS;replace e2:=below_at hS e2;go_simp;with_reducible rfl)
    refine pu_ 22 (some 222) (bq 46 8337659) HT_ rfl rfl ?_
    refine pu_ 23 (some 223) (bq 46 16726267) HT_ rfl rfl ?_
    refine pu_ 24 (some 224) (bq 46 33503483) HT_ rfl rfl ?_
    refine pu_ 25 (some 225) (bq 46 67057915) HT_ rfl rfl ?_
    refine tk_ 26 (some 226) (bq 46 134166779) HT_ HW_ rfl rfl hHeld ?_ (by intro w' hS;replace e3:=below_at hS e3;go_simp;with_reducible rfl)
    refine pu_ 27 (some 227) (bq 46 268384507) HT_ rfl rfl ?_
    refine pu_ 28 (some 228) (bq 46 536819963) HT_ rfl rfl ?_
    refine pu_ 29 (some 229) (bq 46 1073690875) HT_ rfl rfl ?_
    refine pu_ 30 (some 230) (bq 46 2147432699) HT_ rfl rfl ?_
    refine pu_ 31 (some 231) (bq 46 4294916347) HT_ rfl rfl ?_
    refine tk_ 32 (some 232) (bq 46 8589883643) HT_ HW_ rfl rfl hHeld ?_ (by intro w' hS;replace e4:=below_at hS e4;go_simp;with_reducible rfl)
    refine pu_ 33 (some 233) (bq 46 17179818235) HT_ rfl rfl ?_
    refine pu_ 34 (some 234) (bq 46 34359687419) HT_ rfl rfl ?_
    refine pu_ 35 (some 235) (bq 46 68719425787) HT_ rfl rfl ?_
    refine tk_ 36 (some 236) (bq 46 137438902523) HT_ HW_ rfl rfl hHeld ?_ (by intro w' hS;replace e5:=below_at hS e5;go_simp;with_reducible rfl)
    refine pu_ 37 (some 237) (bq 46 274877855995) HT_ rfl rfl ?_
    refine pu_ 38 (some 238) (bq 46 549755762939) HT_ rfl rfl ?_
    refine pu_ 39 (some 239) (bq 46 1099511576827) HT_ rfl rfl ?_
    refine pu_ 40 (some 240) (bq 46 2199023204603) HT_ rfl rfl ?_
    refine join_ (σ:=Nat × Nat) 5 (bq 46 2199023255551) (fun s=>[(202,.slice (some ⟨s.1,0,none⟩) 4 4),(208,.pointer (some ⟨s.1,(x0 % (n:Int)).toNat,none⟩)),(209,.string (nm4 (x0 % (n:Int)).toNat)),(210,.slice (some ⟨s.2,0,none⟩) 3 3),(214,.pointer (some ⟨s.2,(x1 % 3).toNat,none⟩)),(215,.string (ver3 (x1 % 3).toNat))]) (fun _ w'=>Below wx.heap.size wx w') ?_ ?_
    rotate_left
    ·intro hCont
     refine two_ (i:=2) (j:=10) (Ni:=some 202) (Nj:=some 210) (bq 46 2199023204607) (bq 46 2199023205627) rfl rfl rfl rfl (two_of HT_.out (by kernel_rfl)) (by decide) (by decide) (fun K hK=>?_) (fun K hK=>?_)
     ·refine goes_ Tryz.func11 (by kernel_rfl) rfl #[] (by rfl) rfl rfl (by (try simp only [List.map_toArray,List.map_cons,List.map_nil]);first | done | rfl) ?_
      with_reducible refine (names_ex _).mono ?_
      rintro e wn ⟨nb,rfl,hN,hb⟩
      refine ⟨_,rfl,?_⟩
      have hk:=hN (x0 % (n:Int)).toNat (by omega)
      clear hN
      replace hHeld:=below_step hHeld hb
      clear hb
      refine hK.out _ _ hHeld (fun hHeld=>?_)
      clear hK K
      refine norm_ (a':=?_) ?_ ?_
      rotate_left
      ·show Act.put _ (some 202) _ = _
       simp only [Act.put,List.setIfInBounds_toArray,List.set_cons_zero,List.set_cons_succ,i64_w,i32_w]
       rfl
      refine pu_ 8 (some 208) (bq 46 2199023204863) HT_ rfl rfl ?_
      refine two_ (i:=9) (j:=10) (Ni:=some 209) (Nj:=some 210) (bq 46 2199023205375) (bq 46 2199023205887) rfl rfl rfl rfl (two_of HT_.out (by kernel_rfl)) (by decide) (by decide) (fun K hK=>?_) (fun K hK=>?_)
      ·rw [if_pos (by rfl)]
       go_simp
       refine hK.out _ _ hHeld (fun hHeld=>?_)
       clear hK K
       refine one_ (i:=10) (N:=some 210) (bq 46 2199023206399) rfl rfl (one_of HT_.out (by kernel_rfl)) (by decide) (fun K hK=>?_)
       refine ver_step (by rfl) (by go_simp) ?_
       intro vb w1 hV hb
       have hv:=hV (x1 % 3).toNat (by omega)
       clear hV
       replace hk:=below_at hb hk
       replace hHeld:=below_step hHeld hb
       clear hb
       refine hK.out _ _ hHeld (fun hHeld=>?_)
       clear hK K
       refine norm_ (a':=?_) ?_ ?_
       rotate_left
       ·show Act.put _ (some 210) _ = _
        simp only [Act.put,List.setIfInBounds_toArray,List.set_cons_zero,List.set_cons_succ,i64_w,i32_w]
        rfl
       refine pu_ 14 (some 214) (bq 46 2199023222783) HT_ rfl rfl ?_
       refine one_ (i:=15) (N:=some 215) (bq 46 2199023255551) rfl rfl (one_of HT_.out (by kernel_rfl)) (by decide) (fun K hK=>?_)
       rw [if_pos (by rfl)]
       go_simp
       refine hK.out _ _ hHeld (fun hHeld=>?_)
       clear hK K
       exact norm_ (by simp only [putAll,Act.put,List.setIfInBounds_toArray,List.set_cons_zero,List.set_cons_succ]) (hCont (nb,vb) _ hHeld)
      ·refine ver_step (by rfl) (by go_simp) ?_
       intro vb w1 hV hb
       have hv:=hV (x1 % 3).toNat (by omega)
       clear hV
       replace hk:=below_at hb hk
       replace hHeld:=below_step hHeld hb
       clear hb
       refine hK.out _ _ hHeld (fun hHeld=>?_)
       clear hK K
       refine norm_ (a':=?_) ?_ ?_
       rotate_left
       ·show Act.put _ (some 210) _ = _
        simp only [Act.put,List.setIfInBounds_toArray,List.set_cons_zero,List.set_cons_succ,i64_w,i32_w]
        rfl
       refine pu_ 14 (some 214) (bq 46 2199023222271) HT_ rfl rfl ?_
       refine two_ (i:=9) (j:=15) (Ni:=some 209) (Nj:=some 215) (bq 46 2199023222783) (bq 46 2199023255039) rfl rfl rfl rfl (two_of HT_.out (by kernel_rfl)) (by decide) (by decide) (fun K hK=>?_) (fun K hK=>?_)
       ·rw [if_pos (by rfl)]
        go_simp
        refine hK.out _ _ hHeld (fun hHeld=>?_)
        clear hK K
        refine one_ (i:=15) (N:=some 215) (bq 46 2199023255551) rfl rfl (one_of HT_.out (by kernel_rfl)) (by decide) (fun K hK=>?_)
        rw [if_pos (by rfl)]
        go_simp
        refine hK.out _ _ hHeld (fun hHeld=>?_)
        clear hK K
        exact norm_ (by simp only [putAll,Act.put,List.setIfInBounds_toArray,List.set_cons_zero,List.set_cons_succ]) (hCont (nb,vb) _ hHeld)
       ·rw [if_pos (by rfl)]
        go_simp
        refine hK.out _ _ hHeld (fun hHeld=>?_)
        clear hK K
        refine one_ (i:=9) (N:=some 209) (bq 46 2199023255551) rfl rfl (one_of HT_.out (by kernel_rfl)) (by decide) (fun K hK=>?_)
        rw [if_pos (by rfl)]
        go_simp
        refine hK.out _ _ hHeld (fun hHeld=>?_)
        clear hK K
        exact norm_ (by simp only [putAll,Act.put,List.setIfInBounds_toArray,List.set_cons_zero,List.set_cons_succ]) (hCont (nb,vb) _ hHeld)
     ·refine ver_step (by rfl) (by go_simp) ?_
      intro vb w1 hV hb
      have hv:=hV (x1 % 3).toNat (by omega)
      clear hV
      replace hHeld:=below_step hHeld hb
      clear hb
      refine hK.out _ _ hHeld (fun hHeld=>?_)
      clear hK K
      refine norm_ (a':=?_) ?_ ?_
      rotate_left
      ·show Act.put _ (some 210) _ = _
       simp only [Act.put,List.setIfInBounds_toArray,List.set_cons_zero,List.set_cons_succ,i64_w,i32_w]
       rfl
      refine pu_ 14 (some 214) (bq 46 2199023222011) HT_ rfl rfl ?_
      refine two_ (i:=2) (j:=15) (Ni:=some 202) (Nj:=some 215) (bq 46 2199023222015) (bq 46 2199023254779) rfl rfl rfl rfl (two_of HT_.out (by kernel_rfl)) (by decide) (by decide) (fun K hK=>?_) (fun K hK=>?_)
      ·refine goes_ Tryz.func11 (by kernel_rfl) rfl #[] (by rfl) rfl rfl (by (try simp only [List.map_toArray,List.map_cons,List.map_nil]);first | done | rfl) ?_
       with_reducible refine (names_ex _).mono ?_
       rintro e wn ⟨nb,rfl,hN,hb⟩
       refine ⟨_,rfl,?_⟩
       have hk:=hN (x0 % (n:Int)).toNat (by omega)
       clear hN
       replace hv:=below_at hb hv
       replace hHeld:=below_step hHeld hb
       clear hb
       refine hK.out _ _ hHeld (fun hHeld=>?_)
       clear hK K
       refine norm_ (a':=?_) ?_ ?_
       rotate_left
       ·show Act.put _ (some 202) _ = _
        simp only [Act.put,List.setIfInBounds_toArray,List.set_cons_zero,List.set_cons_succ,i64_w,i32_w]
        rfl
       refine pu_ 8 (some 208) (bq 46 2199023222271) HT_ rfl rfl ?_
       refine two_ (i:=9) (j:=15) (Ni:=some 209) (Nj:=some 215) (bq 46 2199023222783) (bq 46 2199023255039) rfl rfl rfl rfl (two_of HT_.out (by kernel_rfl)) (by decide) (by decide) (fun K hK=>?_) (fun K hK=>?_)
       ·rw [if_pos (by rfl)]
        go_simp
        refine hK.out _ _ hHeld (fun hHeld=>?_)
        clear hK K
        refine one_ (i:=15) (N:=some 215) (bq 46 2199023255551) rfl rfl (one_of HT_.out (by kernel_rfl)) (by decide) (fun K hK=>?_)
        rw [if_pos (by rfl)]
        go_simp
        refine hK.out _ _ hHeld (fun hHeld=>?_)
        clear hK K
        exact norm_ (by simp only [putAll,Act.put,List.setIfInBounds_toArray,List.set_cons_zero,List.set_cons_succ]) (hCont (nb,vb) _ hHeld)
       ·rw [if_pos (by rfl)]
        go_simp
        refine hK.out _ _ hHeld (fun hHeld=>?_)
        clear hK K
        refine one_ (i:=9) (N:=some 209) (bq 46 2199023255551) rfl rfl (one_of HT_.out (by kernel_rfl)) (by decide) (fun K hK=>?_)
        rw [if_pos (by rfl)]
        go_simp
        refine hK.out _ _ hHeld (fun hHeld=>?_)
        clear hK K
        exact norm_ (by simp only [putAll,Act.put,List.setIfInBounds_toArray,List.set_cons_zero,List.set_cons_succ]) (hCont (nb,vb) _ hHeld)
      ·rw [if_pos (by rfl)]
       go_simp
       refine hK.out _ _ hHeld (fun hHeld=>?_)
       clear hK K
       refine one_ (i:=2) (N:=some 202) (bq 46 2199023254783) rfl rfl (one_of HT_.out (by kernel_rfl)) (by decide) (fun K hK=>?_)
       refine goes_ Tryz.func11 (by kernel_rfl) rfl #[] (by rfl) rfl rfl (by (try simp only [List.map_toArray,List.map_cons,List.map_nil]);first | done | rfl) ?_
       with_reducible refine (names_ex _).mono ?_
       rintro e wn ⟨nb,rfl,hN,hb⟩
       refine ⟨_,rfl,?_⟩
       have hk:=hN (x0 % (n:Int)).toNat (by omega)
       clear hN
       replace hv:=below_at hb hv
       replace hHeld:=below_step hHeld hb
       clear hb
       refine hK.out _ _ hHeld (fun hHeld=>?_)
       clear hK K
       refine norm_ (a':=?_) ?_ ?_
       rotate_left
       ·show Act.put _ (some 202) _ = _
        simp only [Act.put,List.setIfInBounds_toArray,List.set_cons_zero,List.set_cons_succ,i64_w,i32_w]
        rfl
       refine pu_ 8 (some 208) (bq 46 2199023255039) HT_ rfl rfl ?_
       refine one_ (i:=9) (N:=some 209) (bq 46 2199023255551) rfl rfl (one_of HT_.out (by kernel_rfl)) (by decide) (fun K hK=>?_)
       rw [if_pos (by rfl)]
       go_simp
       refine hK.out _ _ hHeld (fun hHeld=>?_)
       clear hK K
       exact norm_ (by simp only [putAll,Act.put,List.setIfInBounds_toArray,List.set_cons_zero,List.set_cons_succ]) (hCont (nb,vb) _ hHeld)
    rintro ⟨nb,vb⟩ w5 hHeld
    refine norm_ (a':=?_) ?_ ?_
    rotate_left
    ·simp only [putAll,Act.put,List.setIfInBounds_toArray,List.set_cons_zero,List.set_cons_succ]
     rfl
    refine pu_ 41 (some 241) (bq 46 4398046511103) HT_ rfl rfl ?_
    refine one_ (i:=42) (N:=some 242) (bq 46 8796093022207) rfl rfl (one_of HT_.out (by kernel_rfl)) (by decide) (fun K hK=>?_)
    refine Kd.R_lit_step k61 (w0:=wx) wx.heap.size 61 (by rfl) (N:=242) rfl (xs:=[⟨nm4 (x0 % (n:Int)).toNat,ver3 (x1 % 3).toNat,⟨x2 % 8,x2 % 8 + 1 + x3 % 8⟩,x4 % 30,x5 % 3 * 1000000 / 4⟩]) (inner:=[.string (nm4 (x0 % (n:Int)).toNat),.string (ver3 (x1 % 3).toNat),.int .i64 (x2 % 8),.int .i64 (x2 % 8 + 1 + x3 % 8),.int .i64 (x4 % 30),.int .i64 (x5 % 3 * 1000000 / 4)]) (ok:=fun _=>True) (okp:=fun _=>False) (by go_simp) ((Reps.none _ _).snoc (k61_mkM _ _ _ ⟨nm4 (x0 % (n:Int)).toNat,ver3 (x1 % 3).toNat,⟨x2 % 8,x2 % 8 + 1 + x3 % 8⟩,x4 % 30,x5 % 3 * 1000000 / 4⟩) rfl) (fun _ h=>h.elim) trivial hHeld hHeld.size (by simp) ?_
    intro v54 W54 hr54 hb54 hg54 ho54
    refine hK.out _ _ hb54 (fun hHeld=>?_)
    clear hK K
    refine norm_ (a':=?_) ?_ ?_
    rotate_left
    ·show Act.put _ (some 242) _ = _
     simp only [Act.put,List.setIfInBounds_toArray,List.set_cons_zero,List.set_cons_succ,i64_w,i32_w]
     rfl
    rw [← HTR.out] at hr54
    obtain ⟨A7,c7,e7,_,hc7⟩:=Kd.R_reads hr54
    subst e7
    have hC7:=Aside0.mk hc7
    have hB6:=Aside0.mk (hB5.out.below hHeld)
    have hS6:=Aside0.mk (Kd.R_below hS5.out hHeld)
    have hO6:=Aside0.mk (Kd.R_below hO5.out hHeld)
    have hV6:=Aside0.mk (Kd.R_below hV5.out hHeld)
    have hF6:=Aside0.mk (Kd.R_below hF5.out hHeld)
    clear hc7 hr54 ho54 hg54 hB5 hS5 hO5 hV5 hF5 b4 e0 e1 e2 e3 e4 e5
    refine last_ (i:=43) (N:=some 243) (bq 46 17592186044415) rfl rfl (one_of HT_.out (by kernel_rfl)) (by decide) (fun K hK=>?_)
    refine Kd.R_append_rows_step k61 (Rr:=k61.K _) (w0:=w) w.heap.size (by rfl) (.tmp 201) (.tmp 242) 32 61 _ 64 rfl Tryz.underlying32 info61 rfl (by decide) (by decide) (.slice A5 fl.length c5) fl [tr] A7 1 c7 (fun _=>True) (fun _=>False) (by rfl) (by rfl) hF6.out (by exact hC7.out) (fun x cs h=>k61_KM h) (fun _ h=>h.elim) (fun _ _=>trivial) hB6.out.B hB6.out.B.size hlen.out ?_
    intro v55 W55 hr55 hb55 hg55 ho55
    refine hK.out _ _ ?_
    clear hK K
    refine norm_ (a':=?_) ?_ ?_
    rotate_left
    ·show Act.put _ (some 243) _ = _
     simp only [Act.put,List.setIfInBounds_toArray,List.set_cons_zero,List.set_cons_succ,i64_w,i32_w]
     rfl
    obtain ⟨A8,c8,e8⟩:=Kd.R_slice hr55
    rw [List.length_append,List.length_singleton] at e8
    subst e8
    have HB7:=Aside0.mk (hB6.out.grown hg55 hb55 (Kd.R_ne hF6.out hB6.out.P (by decide)) (Kd.R_ne hF6.out hB6.out.R (by decide)) (Kd.R_ne hF6.out hB6.out.C (by decide)))
    have HS7:=Aside0.mk (Kd.R_over' hS6.out (Kd.R_typed hF6.out) (by decide) hg55)
    have HO7:=Aside0.mk (Kd.R_over' hO6.out (Kd.R_typed hF6.out) (by decide) hg55)
    have HV7:=Aside0.mk (Kd.R_over' hV6.out (Kd.R_typed hF6.out) (by decide) hg55)
    have HR7:=Aside0.mk hr55
    have y1:W55.cell? ⟨w.heap.size + 2,4,none⟩ = some (.slice A5 fl.length c5):=(blk_cell HB7.out.C 4).trans rfl
    have y2:W55.frozen? ⟨w.heap.size + 2,4,none⟩ = false:=blk_frozen HB7.out.C 4
    clear hr55 hb55 hg55 ho55 hHeld hB6 hS6 hO6 hV6 hF6 hC7
    refine pu_ 44 (some 244) (bq 46 35184372088831) HT_ rfl rfl ?_
    refine last_ (i:=45) (N:=none) (bq 46 70368744177663) rfl rfl (one_of HT_.out (by kernel_rfl)) (by decide) (fun K hK=>?_)
    rw [if_pos (by rfl)]
    go_simp
    refine hK.out _ _ ?_
    clear hK K
    refine done_ (done_of HT_.out (by kernel_rfl)) ?_
    clear t0 t1 t1w t2 t3 t4 t5 t6 s2 s3 s4 s5 s6 s7 s8 s9 s10 r0 r1 r2 r3 hn0 hn00
    go_wp2
    obtain rfl:=HNN.out
    go_roundg (3 - (i + 1))
    case measure=>omega
    case rel=>exact ⟨i + 1,_,by omega,by omega,by omega,by go_num,⟨HB7.out.set 4 _⟩,⟨Kd.R_set HS7.out HB7.out.C (by decide) 4 _⟩,⟨Kd.R_set HO7.out HB7.out.C (by decide) 4 _⟩,⟨Kd.R_set HV7.out HB7.out.C (by decide) 4 _⟩,⟨by rw [HFN.out];exact Kd.R_set HR7.out HB7.out.C (by decide) 4 _⟩⟩
   ·have HE:Aside0 (p.flts = p.flTo i):=⟨p.flTo_end i hi hi3 (by omega)⟩
    by_cases hl1:i < p.trs.length
    ·have hz1:(i:Int) < (p.trs.length:Int):=by omega
     have hz2:decide ((i:Int) < 3) = false:=by simp;omega
     clear hlt
     go_wp2
     go_meet
     exact ⟨rfl,_,HB3,HS,HO,HV,⟨by rw [HE.out];exact HF.out⟩⟩
    ·have hz1:decide (i < p.trs.length) = false:=by simp;omega
     have hz3:decide ((i:Int) < (p.trs.length:Int)) = false:=by simp;omega
     clear hlt
     go_wp2
     go_meet
     exact ⟨rfl,_,HB3,HS,HO,HV,⟨by rw [HE.out];exact HF.out⟩⟩
 case rest=>
  obtain ⟨rfl,v4,HB3,HS,HO,HV,HF⟩:=hcut
  obtain ⟨A1,c1,e1,lA1,C1⟩:=Kd.R_reads HS.out
  obtain ⟨A2,c2,e2,lA2,C2⟩:=Kd.R_reads HO.out
  obtain ⟨A3,c3,e3,lA3,C3⟩:=Kd.R_reads HV.out
  obtain ⟨A4,c4,e4,lA4,C4⟩:=Kd.R_reads HF.out
  rw [e1] at HS HB3
  rw [e2] at HO HB3
  rw [e3] at HV HB3
  rw [e4] at HF HB3
  clear e1 e2 e3 e4 C1 C2 C3 C4
  have q0:wc.cell? ⟨w.heap.size + 2,0,none⟩ = some (.int .i64 p.seed):=(blk_cell HB3.out.C 0).trans rfl
  have z0:wc.cell? ⟨w.heap.size + 1,0,none⟩ = some (.int .i64 0):=(blk_cell HB3.out.R 0).trans rfl
  have fz0:wc.frozen? ⟨w.heap.size + 1,0,none⟩ = false:=blk_frozen HB3.out.R 0
  have q1:wc.cell? ⟨w.heap.size + 2,1,none⟩ = some (.slice A1 p.sv.length c1):=(blk_cell HB3.out.C 1).trans rfl
  have z1:wc.cell? ⟨w.heap.size + 1,1,none⟩ = some nilV:=(blk_cell HB3.out.R 1).trans rfl
  have fz1:wc.frozen? ⟨w.heap.size + 1,1,none⟩ = false:=blk_frozen HB3.out.R 1
  have q2:wc.cell? ⟨w.heap.size + 2,2,none⟩ = some (.slice A2 p.offs.length c2):=(blk_cell HB3.out.C 2).trans rfl
  have z2:wc.cell? ⟨w.heap.size + 1,2,none⟩ = some nilV:=(blk_cell HB3.out.R 2).trans rfl
  have fz2:wc.frozen? ⟨w.heap.size + 1,2,none⟩ = false:=blk_frozen HB3.out.R 2
  have q3:wc.cell? ⟨w.heap.size + 2,3,none⟩ = some (.slice A3 cl.length c3):=(blk_cell HB3.out.C 3).trans rfl
  have z3:wc.cell? ⟨w.heap.size + 1,3,none⟩ = some nilV:=(blk_cell HB3.out.R 3).trans rfl
  have fz3:wc.frozen? ⟨w.heap.size + 1,3,none⟩ = false:=blk_frozen HB3.out.R 3
  have q4:wc.cell? ⟨w.heap.size + 2,4,none⟩ = some (.slice A4 p.flts.length c4):=(blk_cell HB3.out.C 4).trans rfl
  have z4:wc.cell? ⟨w.heap.size + 1,4,none⟩ = some nilV:=(blk_cell HB3.out.R 4).trans rfl
  have fz4:wc.frozen? ⟨w.heap.size + 1,4,none⟩ = false:=blk_frozen HB3.out.R 4
  have q5:wc.cell? ⟨w.heap.size + 2,5,none⟩ = some (.int .i64 (p.first % 8)):=(blk_cell HB3.out.C 5).trans rfl
  have z5:wc.cell? ⟨w.heap.size + 1,5,none⟩ = some (.int .i64 0):=(blk_cell HB3.out.R 5).trans rfl
  have fz5:wc.frozen? ⟨w.heap.size + 1,5,none⟩ = false:=blk_frozen HB3.out.R 5
  have q6:wc.cell? ⟨w.heap.size + 2,6,none⟩ = some (.int .i64 (p.first % 8 + p.slots % 4)):=(blk_cell HB3.out.C 6).trans rfl
  have z6:wc.cell? ⟨w.heap.size + 1,6,none⟩ = some (.int .i64 0):=(blk_cell HB3.out.R 6).trans rfl
  have fz6:wc.frozen? ⟨w.heap.size + 1,6,none⟩ = false:=blk_frozen HB3.out.R 6
  have q7:wc.cell? ⟨w.heap.size + 2,7,none⟩ = some (.int .i64 (p.per % 3)):=(blk_cell HB3.out.C 7).trans rfl
  have z7:wc.cell? ⟨w.heap.size + 1,7,none⟩ = some (.int .i64 0):=(blk_cell HB3.out.R 7).trans rfl
  have fz7:wc.frozen? ⟨w.heap.size + 1,7,none⟩ = false:=blk_frozen HB3.out.R 7
  have q8:wc.cell? ⟨w.heap.size + 2,8,none⟩ = some (.int .i64 (p.delay % 6)):=(blk_cell HB3.out.C 8).trans rfl
  have z8:wc.cell? ⟨w.heap.size + 1,8,none⟩ = some (.int .i64 0):=(blk_cell HB3.out.R 8).trans rfl
  have fz8:wc.frozen? ⟨w.heap.size + 1,8,none⟩ = false:=blk_frozen HB3.out.R 8
  have q9:wc.cell? ⟨w.heap.size + 2,9,none⟩ = some (.int .i64 (1 + p.chunk % 8)):=(blk_cell HB3.out.C 9).trans rfl
  have z9:wc.cell? ⟨w.heap.size + 1,9,none⟩ = some (.int .i64 0):=(blk_cell HB3.out.R 9).trans rfl
  have fz9:wc.frozen? ⟨w.heap.size + 1,9,none⟩ = false:=blk_frozen HB3.out.R 9
  have q10:wc.cell? ⟨w.heap.size + 2,10,none⟩ = some (.int .i64 (p.loss % 9 * 1000000 / 8)):=(blk_cell HB3.out.C 10).trans rfl
  have z10:wc.cell? ⟨w.heap.size + 1,10,none⟩ = some (.int .i64 0):=(blk_cell HB3.out.R 10).trans rfl
  have fz10:wc.frozen? ⟨w.heap.size + 1,10,none⟩ = false:=blk_frozen HB3.out.R 10
  have q11:wc.cell? ⟨w.heap.size + 2,11,none⟩ = some (.int .i64 (p.rep % 9 * 1000000 / 8)):=(blk_cell HB3.out.C 11).trans rfl
  have z11:wc.cell? ⟨w.heap.size + 1,11,none⟩ = some (.int .i64 0):=(blk_cell HB3.out.R 11).trans rfl
  have fz11:wc.frozen? ⟨w.heap.size + 1,11,none⟩ = false:=blk_frozen HB3.out.R 11
  have kf:=fill12 HB3.out.R (.int .i64 p.seed) (.slice A1 p.sv.length c1) (.slice A2 p.offs.length c2) (.slice A3 cl.length c3) (.slice A4 p.flts.length c4) (.int .i64 (p.first % 8)) (.int .i64 (p.first % 8 + p.slots % 4)) (.int .i64 (p.per % 3)) (.int .i64 (p.delay % 6)) (.int .i64 (1 + p.chunk % 8)) (.int .i64 (p.loss % 9 * 1000000 / 8)) (.int .i64 (p.rep % 9 * 1000000 / 8))
  have HL:=Aside0.mk (below12 (g:=w.heap.size + 1) HB3.out.B (by omega) (.int .i64 p.seed) (.slice A1 p.sv.length c1) (.slice A2 p.offs.length c2) (.slice A3 cl.length c3) (.slice A4 p.flts.length c4) (.int .i64 (p.first % 8)) (.int .i64 (p.first % 8 + p.slots % 4)) (.int .i64 (p.per % 3)) (.int .i64 (p.delay % 6)) (.int .i64 (1 + p.chunk % 8)) (.int .i64 (p.loss % 9 * 1000000 / 8)) (.int .i64 (p.rep % 9 * 1000000 / 8)))
  have ty:∀ q,q = 64 ∨ q = 9 ∨ q = 91 ∨ q = 100 ∨ q = 61→q ≠ 31:=by intro q hq;rcases hq with rfl | rfl | rfl | rfl | rfl <;> decide
  have HC:=Aside0.mk (show CfgO w.heap.size ((((((((((((wc.setCell ⟨w.heap.size + 1,0,none⟩ (.int .i64 p.seed)).setCell ⟨w.heap.size + 1,1,none⟩ (.slice A1 p.sv.length c1)).setCell ⟨w.heap.size + 1,2,none⟩ (.slice A2 p.offs.length c2)).setCell ⟨w.heap.size + 1,3,none⟩ (.slice A3 cl.length c3)).setCell ⟨w.heap.size + 1,4,none⟩ (.slice A4 p.flts.length c4)).setCell ⟨w.heap.size + 1,5,none⟩ (.int .i64 (p.first % 8))).setCell ⟨w.heap.size + 1,6,none⟩ (.int .i64 (p.first % 8 + p.slots % 4))).setCell ⟨w.heap.size + 1,7,none⟩ (.int .i64 (p.per % 3))).setCell ⟨w.heap.size + 1,8,none⟩ (.int .i64 (p.delay % 6))).setCell ⟨w.heap.size + 1,9,none⟩ (.int .i64 (1 + p.chunk % 8))).setCell ⟨w.heap.size + 1,10,none⟩ (.int .i64 (p.loss % 9 * 1000000 / 8))).setCell ⟨w.heap.size + 1,11,none⟩ (.int .i64 (p.rep % 9 * 1000000 / 8))) ⟨A1,c1,A2,c2,A3,c3,A4,c4⟩ (p.cfg chgs47) from by
   rw [HCL.out]
   exact fun W' hk=>⟨(Kd.R_reads' (R_from (R_set12 HS.out HB3.out.R (by decide) (.int .i64 p.seed) (.slice A1 p.sv.length c1) (.slice A2 p.offs.length c2) (.slice A3 cl.length c3) (.slice A4 p.flts.length c4) (.int .i64 (p.first % 8)) (.int .i64 (p.first % 8 + p.slots % 4)) (.int .i64 (p.per % 3)) (.int .i64 (p.delay % 6)) (.int .i64 (1 + p.chunk % 8)) (.int .i64 (p.loss % 9 * 1000000 / 8)) (.int .i64 (p.rep % 9 * 1000000 / 8))) hk)).2.2,lA1,(Kd.R_reads' (R_from (R_set12 HO.out HB3.out.R (by decide) (.int .i64 p.seed) (.slice A1 p.sv.length c1) (.slice A2 p.offs.length c2) (.slice A3 cl.length c3) (.slice A4 p.flts.length c4) (.int .i64 (p.first % 8)) (.int .i64 (p.first % 8 + p.slots % 4)) (.int .i64 (p.per % 3)) (.int .i64 (p.delay % 6)) (.int .i64 (1 + p.chunk % 8)) (.int .i64 (p.loss % 9 * 1000000 / 8)) (.int .i64 (p.rep % 9 * 1000000 / 8))) hk)).2.2,lA2,(Kd.R_reads' (R_from (R_set12 HV.out HB3.out.R (by decide) (.int .i64 p.seed) (.slice A1 p.sv.length c1) (.slice A2 p.offs.length c2) (.slice A3 cl.length c3) (.slice A4 p.flts.length c4) (.int .i64 (p.first % 8)) (.int .i64 (p.first % 8 + p.slots % 4)) (.int .i64 (p.per % 3)) (.int .i64 (p.delay % 6)) (.int .i64 (1 + p.chunk % 8)) (.int .i64 (p.loss % 9 * 1000000 / 8)) (.int .i64 (p.rep % 9 * 1000000 / 8))) hk)).2.2,lA3,(Kd.R_reads' (R_from (R_set12 HF.out HB3.out.R (by decide) (.int .i64 p.seed) (.slice A1 p.sv.length c1) (.slice A2 p.offs.length c2) (.slice A3 cl.length c3) (.slice A4 p.flts.length c4) (.int .i64 (p.first % 8)) (.int .i64 (p.first % 8 + p.slots % 4)) (.int .i64 (p.per % 3)) (.int .i64 (p.delay % 6)) (.int .i64 (1 + p.chunk % 8)) (.int .i64 (p.loss % 9 * 1000000 / 8)) (.int .i64 (p.rep % 9 * 1000000 / 8))) hk)).2.2,lA4⟩)
  clear ty
  have KF:=Aside0.mk kf
  clear kf HS HO HV HF HB3
  go_wp2
  have kf:=KF.out
  generalize ((((((((((((wc.setCell ⟨w.heap.size + 1,0,none⟩ (.int .i64 p.seed)).setCell ⟨w.heap.size + 1,1,none⟩ (.slice A1 p.sv.length c1)).setCell ⟨w.heap.size + 1,2,none⟩ (.slice A2 p.offs.length c2)).setCell ⟨w.heap.size + 1,3,none⟩ (.slice A3 cl.length c3)).setCell ⟨w.heap.size + 1,4,none⟩ (.slice A4 p.flts.length c4)).setCell ⟨w.heap.size + 1,5,none⟩ (.int .i64 (p.first % 8))).setCell ⟨w.heap.size + 1,6,none⟩ (.int .i64 (p.first % 8 + p.slots % 4))).setCell ⟨w.heap.size + 1,7,none⟩ (.int .i64 (p.per % 3))).setCell ⟨w.heap.size + 1,8,none⟩ (.int .i64 (p.delay % 6))).setCell ⟨w.heap.size + 1,9,none⟩ (.int .i64 (1 + p.chunk % 8))).setCell ⟨w.heap.size + 1,10,none⟩ (.int .i64 (p.loss % 9 * 1000000 / 8))).setCell ⟨w.heap.size + 1,11,none⟩ (.int .i64 (p.rep % 9 * 1000000 / 8))) = W4 at *
  have t0:W4.cell? ⟨w.heap.size + 1,0,none⟩ = some (.int .i64 p.seed):=(blk_cell kf 0).trans rfl
  have t1:W4.cell? ⟨w.heap.size + 1,1,none⟩ = some (.slice A1 p.sv.length c1):=(blk_cell kf 1).trans rfl
  have t2:W4.cell? ⟨w.heap.size + 1,2,none⟩ = some (.slice A2 p.offs.length c2):=(blk_cell kf 2).trans rfl
  have t3:W4.cell? ⟨w.heap.size + 1,3,none⟩ = some (.slice A3 cl.length c3):=(blk_cell kf 3).trans rfl
  have t4:W4.cell? ⟨w.heap.size + 1,4,none⟩ = some (.slice A4 p.flts.length c4):=(blk_cell kf 4).trans rfl
  have t5:W4.cell? ⟨w.heap.size + 1,5,none⟩ = some (.int .i64 (p.first % 8)):=(blk_cell kf 5).trans rfl
  have t6:W4.cell? ⟨w.heap.size + 1,6,none⟩ = some (.int .i64 (p.first % 8 + p.slots % 4)):=(blk_cell kf 6).trans rfl
  have t7:W4.cell? ⟨w.heap.size + 1,7,none⟩ = some (.int .i64 (p.per % 3)):=(blk_cell kf 7).trans rfl
  have t8:W4.cell? ⟨w.heap.size + 1,8,none⟩ = some (.int .i64 (p.delay % 6)):=(blk_cell kf 8).trans rfl
  have t9:W4.cell? ⟨w.heap.size + 1,9,none⟩ = some (.int .i64 (1 + p.chunk % 8)):=(blk_cell kf 9).trans rfl
  have t10:W4.cell? ⟨w.heap.size + 1,10,none⟩ = some (.int .i64 (p.loss % 9 * 1000000 / 8)):=(blk_cell kf 10).trans rfl
  have t11:W4.cell? ⟨w.heap.size + 1,11,none⟩ = some (.int .i64 (p.rep % 9 * 1000000 / 8)):=(blk_cell kf 11).trans rfl
  refine bodyPost_ret (v:=(p.cfg chgs47).val ⟨A1,c1,A2,c2,A3,c3,A4,c4⟩) ?_ rfl ⟨_,rfl,HC.out,HL.out⟩
  rw [HCL.out]
  simp [results,Tryz.results12,go_sem,t0,t1,t2,t3,t4,t5,t6,t7,t8,t9,t10,t11]
set_option maxHeartbeats 16000000 in
set_option maxRecDepth 100000 in
theorem config_part2 (p:Plan) (a:PlanAt) (w wc:World) (v1:Value) {q4 q6 q7 q8 q9 q10 q11 q12 q13 q14 q15 q16 q17 q18 q19 q20 q21 q22 q23 q24 q25 q26 q27 q28 q29 q30 q31 q32 q33 q34 q35 q36 q37 q38 q39 q40 q41 q42 q43 q44 q45 q46 q47 q48 q49 q50 q51 q52 q53 q54 q55 q56 q57 q58 q59 q60 q61 q62 q63 q64 q65 q66 q67 q68 q69 q70 q71 q72 q73 q74 q75 q76 q77 q78 q79 q80 q81 q82 q83 q84 q85 q86 q87 q88 q89 q90 q91 q92 q93 q94 q95 q96 q97 q98 q99 q100 q101 q102 q103 q104 q105 q106 q107 q108 q109 q110 q111 q112 q113 q114 q115 q116 q117 q118 q119 q120 q121 q122 q123 q124 q125 q126 q127 q128 q129 q130 q131 q132 q133 q134 q135 q136 q137 q138 q139 q140 q141 q142 q143 q144 q145 q146 q147 q148 q149 q150 q151 q152 q153 q154 q155 q156 q157 q158 q159 q160 q161 q162 q163 q164 q165 q166 q167 q168 q169 q170 q171 q172 q173 q174 q175 q176 q177 q178 q179 q180 q181 q182 q183 q184 q185 q186 q187 q188 q189 q190 q191 q192 q193 q194 q195 q196 q197 q198 q199 q200 q201 q202 q203 q204 q205 q206 q207 q208 q209 q210 q211 q212 q213 q214 q215 q216 q217 q218 q219 q220 q221 q222 q223 q224 q225 q226 q227 q228 q229 q230 q231 q232 q233 q234 q235 q236 q237 q238 q239 q240 q241 q242 q243 q244 q245:Value} (HR:Aside0 (PlanR w a p)) (HOK:Aside0 (PlanOk p)) (HB3:Aside0 (CfgB w wc (p.cells a) (cfgCells p v1 nilV nilV nilV))) (HS:Aside0 (Kd.R k51 51 wc w.heap.size (fun _=>True) v1 p.sv)):
  Code.wp Tryz.prog tail17.1 (bodyPost Tryz.prog Tryz.f4 (CfgOut w (p.cfg chgs47))) { tmps:=List.toArray ((.agg (p.cells a))::(.pointer (some ⟨w.heap.size,0,none⟩))::(.pointer (some ⟨w.heap.size + 1,0,none⟩))::(.pointer (some ⟨w.heap.size + 2,0,none⟩))::q4::(.int .i64 (p.n:Int))::q6::q7::q8::q9::q10::q11::q12::q13::q14::q15::q16::q17::q18::q19::q20::q21::q22::q23::q24::q25::q26::q27::q28::q29::q30::q31::q32::q33::q34::q35::q36::q37::q38::q39::q40::q41::q42::q43::q44::q45::q46::q47::q48::q49::q50::q51::q52::q53::q54::q55::q56::q57::q58::q59::q60::q61::q62::q63::q64::q65::q66::q67::q68::q69::q70::q71::q72::q73::q74::q75::q76::q77::q78::q79::q80::q81::q82::q83::q84::q85::q86::q87::q88::q89::q90::q91::q92::q93::q94::q95::q96::q97::q98::q99::q100::q101::q102::q103::q104::q105::q106::q107::q108::q109::q110::q111::q112::q113::q114::q115::q116::q117::q118::q119::q120::q121::q122::q123::q124::q125::q126::q127::q128::q129::q130::q131::q132::q133::q134::q135::q136::q137::q138::q139::q140::q141::q142::q143::q144::q145::q146::q147::q148::q149::q150::q151::q152::q153::q154::q155::q156::q157::q158::q159::q160::q161::q162::q163::q164::q165::q166::q167::q168::q169::q170::q171::q172::q173::q174::q175::q176::q177::q178::q179::q180::q181::q182::q183::q184::q185::q186::q187::q188::q189::q190::q191::q192::q193::q194::q195::q196::q197::q198::q199::q200::q201::q202::q203::q204::q205::q206::q207::q208::q209::q210::q211::q212::q213::q214::q215::q216::q217::q218::q219::q220::q221::q222::q223::q224::q225::q226::q227::q228::q229::q230::q231::q232::q233::q234::q235::q236::q237::q238::q239::q240::q241::q242::q243::q244::q245::[]),defers:=[] } wc:=by
 have l1:p.parts.length ≤ 9223372036854775807:=HR.out.r1.2.1
 have l2:p.steps.length ≤ 9223372036854775807:=HR.out.r2.2.1
 have l3:p.trs.length ≤ 9223372036854775807:=HR.out.r3.2.1
 have b:=HOK.out
 obtain ⟨⟨s0,s1⟩,⟨o00,o01⟩,⟨o10,o11⟩,⟨o20,o21⟩,⟨f0,f1⟩,⟨g0,g1⟩,⟨h0,h1⟩,⟨i0,i1⟩,⟨j0,j1⟩,⟨k0,k1⟩,⟨m0,m1⟩,B1,B2,B3⟩:=b
 clear B1 B2 B3
 have hn1:=p.n_pos
 have hn4:p.n ≤ 4:=by unfold Plan.n;omega
 dsimp only [tail17]
 go_upto_block 4 with fail
 go_cut [3] (fun s3 wz=>s3 = .pointer (some ⟨w.heap.size + 2,0,none⟩)∧∃ v2,Aside0 (CfgB w wz (p.cells a) (cfgCells p v1 v2 nilV nilV))∧Aside0 (Kd.R k51 51 wz w.heap.size (fun _=>True) v1 p.sv)∧Aside0 (Kd.R k54 54 wz w.heap.size (fun _=>True) v2 p.offs))
 case first=>
  go_wp2_with fail
  go_loopg [10] 3 (fun gg s10 wr=>∃ (i:Nat) (v2:Value),i ≤ 3∧3 - i ≤ gg∧s10 = .int .i64 (i:Int)∧Aside0 (CfgB w wr (p.cells a) (cfgCells p v1 v2 nilV nilV))∧Aside0 (Kd.R k51 51 wr w.heap.size (fun _=>True) v1 p.sv)∧Aside0 (Kd.R k54 54 wr w.heap.size (fun _=>True) v2 (p.offTo i)))
  case atStart=>exact ⟨0,nilV,Nat.zero_le _,by omega,by rfl,HB3,HS,⟨Kd.R_nil _ _ _ _ _⟩⟩
  case round=>
   clear HB3 HS
   obtain ⟨i,v2,hi,hgi,rfl,HB3,HS,HO⟩:=hrel
   by_cases hlt:i < 3
   ·obtain ⟨A2,c2,e2⟩:=Kd.R_slice HO.out
    subst e2
    have HON:=Aside0.mk (p.offTo_succ i hlt)
    have HOL:=Aside0.mk (p.offTo_len i hi)
    have HI8:=p.oAt_ok HOK.out i
    have e1:wr.cell? ⟨w.heap.size,2 + i,none⟩ = some (.int .i8 (p.oAt i)):=(blk_cell HB3.out.P (2 + i)).trans (p.oAt_cell a i hlt)
    have b2:wr.cell? ⟨w.heap.size + 2,2,none⟩ = some (.slice A2 (p.offTo i).length c2):=(blk_cell HB3.out.C 2).trans rfl
    generalize p.offTo i = ol at HB3 HO HON HOL b2
    generalize p.oAt i = o at e1 HI8 HON
    obtain ⟨u0,u1⟩:=HI8
    have hlen:Aside0 ((ol.length + 1) * 16 ≤ 140737488355328):=⟨by rw [HOL.out];omega⟩
    have n0:(0:Int) ≤ (i:Int):=by omega
    have n1:(i:Int) < 3:=by omega
    have t0:IntKind.i64.wrap ((i:Int) + 1) = (i:Int) + 1:=IntWalk.i64_in _ (by omega)
    have t1:IntKind.i64.wrap o = o:=IntWalk.i64_in _ (by omega)
    have ht:=tmod21 o u0 u1
    have t2:IntKind.i64.wrap (o.tmod 21) = o.tmod 21:=IntWalk.i64_in _ (by omega)
    clear ht
    go_wp2_with fail
    refine start_ (n:=15) (S:=fun w'=>Below wr.heap.size wr w') (ds:=[12,14]) (bq 15 0) (by kernel_rfl) rfl rfl (Below.refl _ _).drew (fun hHeld=>?_)
    refine with_tabW cfgT.tab20 cfgT.bits20 (fun HT_ HW_=>?_)
    generalize wr.drew = wd at hHeld ⊢
    refine pu_ 0 (some 143) (bq 15 1) HT_ rfl rfl ?_
    refine tk_ 1 (some 144) (bq 15 3) HT_ HW_ rfl rfl hHeld ?_ (by intro w' hS;replace b2:=below_at hS b2;go_simp;with_reducible rfl)
    refine pu_ 2 (some 145) (bq 15 7) HT_ rfl rfl ?_
    refine pu_ 3 (some 146) (bq 15 15) HT_ rfl rfl ?_
    refine pu_ 4 (some 147) (bq 15 31) HT_ rfl rfl ?_
    refine pu_ 5 (some 148) (bq 15 63) HT_ rfl rfl ?_
    refine pu_ 6 (some 149) (bq 15 127) HT_ rfl rfl ?_
    refine tk_ 7 (some 150) (bq 15 255) HT_ HW_ rfl rfl hHeld ?_ (by intro w' hS;replace e1:=below_at hS e1;go_simp;with_reducible rfl)
    refine pu_ 8 (some 151) (bq 15 511) HT_ rfl rfl ?_
    refine pu_ 9 (some 152) (bq 15 1023) HT_ rfl rfl ?_
    refine pu_ 10 (some 153) (bq 15 2047) HT_ rfl rfl ?_
    refine one_ (i:=11) (N:=some 154) (bq 15 4095) rfl rfl (one_of HT_.out (by kernel_rfl)) (by decide) (fun K hK=>?_)
    refine Kd.R_lit_step k54 (w0:=wr) wr.heap.size 54 (by rfl) (N:=154) rfl (xs:=[⟨(i:Int) + 1,o.tmod 21⟩]) (inner:=[.int .i64 ((i:Int) + 1),.int .i64 (o.tmod 21)]) (ok:=fun _=>True) (okp:=fun _=>False) (by go_simp) ((Reps.none _ _).snoc (k54_mkM _ _ _ ⟨(i:Int) + 1,o.tmod 21⟩) rfl) (fun _ h=>h.elim) trivial hHeld hHeld.size (by simp) ?_
    intro v54 W54 hr54 hb54 hg54 ho54
    refine hK.out _ _ hb54 (fun hHeld=>?_)
    clear hK K
    refine norm_ (a':=?_) ?_ ?_
    rotate_left
    ·show Act.put _ (some 154) _ = _
     simp only [Act.put,List.setIfInBounds_toArray,List.set_cons_zero,List.set_cons_succ,i64_w,i32_w]
     rfl
    obtain ⟨A5,c5,e5,_,hc5⟩:=Kd.R_reads hr54
    subst e5
    have hC5:=Aside0.mk hc5
    have hB5:=Aside0.mk (HB3.out.below hHeld)
    have hO5:=Aside0.mk (Kd.R_below HO.out hHeld)
    have hS5:=Aside0.mk (Kd.R_below HS.out hHeld)
    clear hc5 hr54 ho54 hg54 b2 e1 HB3 HO HS
    refine last_ (i:=12) (N:=some 155) (bq 15 8191) rfl rfl (one_of HT_.out (by kernel_rfl)) (by decide) (fun K hK=>?_)
    refine Kd.R_append_rows_step k54 (Rr:=k54.K _) (w0:=w) w.heap.size (by rfl) (.tmp 144) (.tmp 154) 30 54 _ 16 rfl Tryz.underlying30 info54 rfl (by decide) (by decide) (.slice A2 ol.length c2) ol [⟨(i:Int) + 1,o.tmod 21⟩] A5 1 c5 (fun _=>True) (fun _=>False) (by rfl) (by rfl) hO5.out (by exact hC5.out) (fun x cs h=>k54_KM h) (fun _ h=>h.elim) (fun _ _=>trivial) hB5.out.B hB5.out.B.size hlen.out ?_
    intro v55 W55 hr55 hb55 hg55 ho55
    refine hK.out _ _ ?_
    clear hK K
    refine norm_ (a':=?_) ?_ ?_
    rotate_left
    ·show Act.put _ (some 155) _ = _
     simp only [Act.put,List.setIfInBounds_toArray,List.set_cons_zero,List.set_cons_succ,i64_w,i32_w]
     rfl
    obtain ⟨A6,c6,e6⟩:=Kd.R_slice hr55
    rw [List.length_append,List.length_singleton] at e6
    subst e6
    have HB7:=Aside0.mk (hB5.out.grown hg55 hb55 (Kd.R_ne hO5.out hB5.out.P (by decide)) (Kd.R_ne hO5.out hB5.out.R (by decide)) (Kd.R_ne hO5.out hB5.out.C (by decide)))
    have HS7:=Aside0.mk (Kd.R_over' hS5.out (Kd.R_typed hO5.out) (by decide) hg55)
    have HR7:=Aside0.mk hr55
    have y1:W55.cell? ⟨w.heap.size + 2,2,none⟩ = some (.slice A2 ol.length c2):=(blk_cell HB7.out.C 2).trans rfl
    have y2:W55.frozen? ⟨w.heap.size + 2,2,none⟩ = false:=blk_frozen HB7.out.C 2
    clear hr55 hb55 hg55 ho55 hHeld hB5 hO5 hS5 hC5
    refine pu_ 13 (some 156) (bq 15 16383) HT_ rfl rfl ?_
    refine last_ (i:=14) (N:=none) (bq 15 32767) rfl rfl (one_of HT_.out (by kernel_rfl)) (by decide) (fun K hK=>?_)
    rw [if_pos (by rfl)]
    go_simp
    refine hK.out _ _ ?_
    clear hK K
    refine done_ (done_of HT_.out (by kernel_rfl)) ?_
    clear n0 n1 t0 t1 t2
    go_wp2
    go_roundg (3 - (i + 1))
    case measure=>omega
    case rel=>exact ⟨i + 1,_,by omega,by omega,by go_num,⟨HB7.out.set 2 _⟩,⟨Kd.R_set HS7.out HB7.out.C (by decide) 2 _⟩,⟨by rw [HON.out];exact Kd.R_set HR7.out HB7.out.C (by decide) 2 _⟩⟩
   ·obtain rfl:i = 3:=by omega
    clear hlt
    go_wp2
    go_meet
    exact ⟨rfl,v2,HB3,HS,HO⟩
 case rest=>
  obtain ⟨rfl,v2,HB3,HS,HO⟩:=hcut
  go_upto_block 6 with fail
  go_cut [3,11] (fun s3 s11 wz=>s3 = .pointer (some ⟨w.heap.size + 2,0,none⟩)∧Aside0 (CfgB w wz (p.cells a) (cfgCells p v1 v2 nilV nilV))∧Aside0 (Kd.R k51 51 wz w.heap.size (fun _=>True) v1 p.sv)∧Aside0 (Kd.R k54 54 wz w.heap.size (fun _=>True) v2 p.offs)∧Aside0 (Kd.R k56 56 wz w.heap.size (fun _=>True) s11 p.sts))
  case first=>
   go_wp2_with fail
   go_loopg [11,12] 6 (fun gg s11 s12 wr=>∃ (i:Nat),i ≤ p.steps.length∧i ≤ 6∧6 - i ≤ gg∧s12 = .int .i64 (i:Int)∧Aside0 (CfgB w wr (p.cells a) (cfgCells p v1 v2 nilV nilV))∧Aside0 (Kd.R k51 51 wr w.heap.size (fun _=>True) v1 p.sv)∧Aside0 (Kd.R k54 54 wr w.heap.size (fun _=>True) v2 p.offs)∧Aside0 (Kd.R k56 56 wr w.heap.size (fun _=>True) s11 (p.stTo i)))
   case atStart=>exact ⟨0,Nat.zero_le _,by omega,by omega,by rfl,HB3,HS,HO,⟨Kd.R_nil _ _ _ _ _⟩⟩
   case round=>
    clear HB3 HS HO
    obtain ⟨i,hi,hi6,hgi,rfl,HB3,HS,HO,HT⟩:=hrel
    obtain ⟨A3,c3,e3⟩:=Kd.R_slice HT.out
    subst e3
    have b5:wr.cell? ⟨w.heap.size,5,none⟩ = some (.slice a.A2 p.steps.length a.c2):=(blk_cell HB3.out.P 5).trans rfl
    by_cases hlt:i < p.steps.length∧i < 6
    ·obtain ⟨hl1,hl2⟩:=hlt
     obtain ⟨ad,e,e0,e1,e2,e3,e4⟩:=cells93 HR.out.r2 i hl1
     have hx:=ok93 HOK.out.steps i hl1
     have HTN:=Aside0.mk (p.stTo_succ i hl1)
     have HTL:=Aside0.mk (p.stTo_len i hi)
     generalize rd_T56 p.steps (i:Int) = x at e0 e1 e2 e3 e4 hx HTN
     obtain ⟨x0,x1,x2,x3,x4⟩:=x
     dsimp only at e0 e1 e2 e3 e4 hx HTN
     obtain ⟨hx0,⟨hx10,hx11⟩,hx2⟩:=hx
     rw [e] at b5
     generalize p.stTo i = tl at HT HTN HTL
     replace e0:=below_at HB3.out.B e0
     replace e1:=below_at HB3.out.B e1
     replace e2:=below_at HB3.out.B e2
     replace e3:=below_at HB3.out.B e3
     replace e4:=below_at HB3.out.B e4
     have hbx:Below wr.heap.size wr (wr.alloc (.cells #[.int .u8 x0,.int .u8 (x1 % 10),.int .u8 x2,.int .u8 x3,.int .u8 x4] 56)):=below_alloc (Below.refl _ _) _
     have hB5:=Aside0.mk (HB3.out.below hbx)
     have hS5:=Aside0.mk (Kd.R_below HS.out hbx)
     have hO5:=Aside0.mk (Kd.R_below HO.out hbx)
     have hT5:=Aside0.mk (Kd.R_below HT.out hbx)
     have hlen:Aside0 ((tl.length + 1) * 5 ≤ 140737488355328):=⟨by rw [HTL.out];omega⟩
     have hM:Aside0 (k56.M (wr.alloc (.cells #[.int .u8 x0,.int .u8 (x1 % 10),.int .u8 x2,.int .u8 x3,.int .u8 x4] 56)) w.heap.size (fun _=>False) ⟨x0,x1 % 10,x2,x3,x4⟩ [.int .u8 x0,.int .u8 (x1 % 10),.int .u8 x2,.int .u8 x3,.int .u8 x4]):=⟨k56_mkM _ _ _ ⟨x0,x1 % 10,x2,x3,x4⟩⟩
     have hz1:(i:Int) < (p.steps.length:Int):=by omega
     have hz2:decide ((i:Int) < 6) = true:=by simp;omega
     have hsz:Aside0 ((wr.alloc (.cells #[.int .u8 x0,.int .u8 (x1 % 10),.int .u8 x2,.int .u8 x3,.int .u8 x4] 56)).heap.size = wr.heap.size + 1):=⟨by simp⟩
     clear HB3 HS HO HT hbx hi
     go_wp2_with (at_builtin;refine Kd.R_append k56 (w0:=w) w.heap.size rfl _ _ 25 56 _ 5 rfl Tryz.underlying25 info56 rfl (by decide) (by decide) (.slice A3 tl.length c3) tl ⟨x0,x1 % 10,x2,x3,x4⟩ [.int .u8 x0,.int .u8 (x1 % 10),.int .u8 x2,.int .u8 x3,.int .u8 x4] (fun _=>True) (fun _=>False) rfl ?c4 ?c5 (fun _ h=>h.elim) (fun _ _=>trivial) ?c8 ?c9 ?c10 ?c3 ?_;(case c4=>rw [hsz.out];rfl);(case c5=>with_reducible exact hM.out);(case c8=>exact hT5.out);(case c9=>exact hB5.out.B);(case c10=>exact hB5.out.B.size);(case c3=>exact hlen.out);intro v7 w7 hr7 hb7 hg7 ho7;have HR7:=Aside0.mk hr7;have HB7:=Aside0.mk (hB5.out.grown hg7 hb7 (Kd.R_ne hT5.out hB5.out.P (by decide)) (Kd.R_ne hT5.out hB5.out.R (by decide)) (Kd.R_ne hT5.out hB5.out.C (by decide)));have HS7:=Aside0.mk (Kd.R_over' hS5.out (Kd.R_typed hT5.out) (by decide) hg7);have HO7:=Aside0.mk (Kd.R_over' hO5.out (Kd.R_typed hT5.out) (by decide) hg7);clear hr7 hb7 hg7 ho7)
     go_roundg (6 - (i + 1))
     case measure=>omega
     case rel=>exact ⟨i + 1,by omega,by omega,by omega,by go_num,HB7,HS7,HO7,⟨by rw [HTN.out];exact HR7.out⟩⟩
    ·have HE:Aside0 (p.sts = p.stTo i):=⟨p.stTo_end i hi hi6 (by omega)⟩
     have HTL:=Aside0.mk (p.stTo_len i hi)
     by_cases hl1:i < p.steps.length
     ·have hz1:(i:Int) < (p.steps.length:Int):=by omega
      have hz2:decide ((i:Int) < 6) = false:=by simp;omega
      clear hlt
      go_wp2
      go_meet
      exact ⟨rfl,HB3,HS,HO,⟨by rw [HE.out];exact HT.out⟩⟩
     ·have hz1:decide (i < p.steps.length) = false:=by simp;omega
      have hz3:decide ((i:Int) < (p.steps.length:Int)) = false:=by simp;omega
      clear hlt
      go_wp2
      go_meet
      exact ⟨rfl,HB3,HS,HO,⟨by rw [HE.out];exact HT.out⟩⟩
  case rest=>
   obtain ⟨rfl,HB3,HS,HO,HT⟩:=hcut
   rename_i hK
   exact hK _ _ (config_part3 p a w _ v1 v2 _ HR HOK HB3 HS HO HT)
end Go.Proofs.YtdadnapfecmmdaaGreat.P
