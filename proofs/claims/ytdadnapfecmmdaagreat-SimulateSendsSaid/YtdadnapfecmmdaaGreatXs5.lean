/- Own texts of a proof about layer 55's simulate (merged): Cc, Hs, Hg, PF58, PF36, PF18, PF96, PQ1, PF109, PF97, PF69, Hp, Hq. -/
import Derived.Test.YtdadnapfecmmdaaGreatXs2
import Derived.Test.YtdadnapfecmmdaaGreatXs3
import Derived.Test.YtdadnapfecmmdaaGreatXs4
import Derived.Deep.DeepMust
import Derived.OpenShut
namespace Go.Proofs.YtdadnapfecmmdaaGreat.P
set_option linter.unusedVariables false
set_option linter.unusedSimpArgs false
open Go.RowKit Go.Proofs.YtdadnapfecmmdaaGreatW.PrintWords Go.Proofs.YtdadnapfecmmdaaGreatW.PrintLast Go.Proofs.YtdadnapfecmmdaaGreatW.PrintMore
open Go.Proofs.YtdadnapfecmmdaaGreat.Hm
set_option maxHeartbeats 16000000 in
set_option maxRecDepth 100000 in
theorem config_calls (p:Plan) (a:PlanAt) (w:World) (hR:PlanR w a p) (hok:PlanOk p):
  Calls Tryz.prog 4 #[.agg (p.cells a)] w (CfgOut w (p.cfg chgs47)):=by
 have HR:=Aside0.mk hR
 have HOK:=Aside0.mk hok
 have l1:p.parts.length ≤ 9223372036854775807:=hR.r1.2.1
 have l2:p.steps.length ≤ 9223372036854775807:=hR.r2.2.1
 have l3:p.trs.length ≤ 9223372036854775807:=hR.r3.2.1
 have b:=hok
 obtain ⟨⟨s0,s1⟩,⟨o00,o01⟩,⟨o10,o11⟩,⟨o20,o21⟩,⟨f0,f1⟩,⟨g0,g1⟩,⟨h0,h1⟩,⟨i0,i1⟩,⟨j0,j1⟩,⟨k0,k1⟩,⟨m0,m1⟩,B1,B2,B3⟩:=b
 clear hR hok B1 B2 B3
 have hB0:CfgB w (((w.alloc (.cells (p.cells a) 28)).alloc (.cells zeroCfg 36)).alloc (.cells (cfgCells p nilV nilV nilV nilV) 36)) (p.cells a) (cfgCells p nilV nilV nilV nilV):=by
  refine ⟨blk_alloc (blk_alloc (blk_new w _) _) _,?_,?_,below_alloc (below_alloc (below_alloc (Below.refl _ _) _) _) _⟩
  ·have h:=blk_alloc (blk_new (w.alloc (.cells (p.cells a) 28)) (.cells zeroCfg 36)) (.cells (cfgCells p nilV nilV nilV nilV) 36)
   simpa using h
  ·have h:=blk_new ((w.alloc (.cells (p.cells a) 28)).alloc (.cells zeroCfg 36)) (.cells (cfgCells p nilV nilV nilV nilV) 36)
   simpa using h
 have HB:=Aside0.mk hB0
 clear hB0
 go_enter Tryz.func4,Tryz.ntmps4
 go_upto_if 63 with fail
 generalize ((w.alloc (.cells (p.cells a) 28)).alloc (.cells zeroCfg 36)).alloc (.cells (cfgCells p nilV nilV nilV nilV) 36) = W1 at HB ⊢
 go_cut [4] (fun s4 wx=>∃ (A:Option Addr) (c:Nat),s4 = .slice A p.ps.length c∧Aside0 (Kd.C k47 wx A p.ps.length p.ps)∧Aside0 (CfgB w wx (p.cells a) (cfgCells p nilV nilV nilV nilV))∧Aside0 (∀ ad,A = some ad→ad.block ≠ w.heap.size + 2))
 case first=>
  by_cases he:p.parts = []
  ·have hb:((p.parts.length:Int) == 0) = true:=beq_iff_eq.mpr (by rw [he];rfl)
   have e:Aside0 (p.ps = [z47]):=⟨by unfold Plan.ps;rw [if_pos he]⟩
   clear he
   go_wp2
   go_meet
   exact ⟨some ⟨W1.heap.size,0,none⟩,1,by rw [e.out];rfl,⟨by rw [e.out];exact lit87 W1⟩,⟨HB.out.below (below_alloc (Below.refl _ _) _)⟩,⟨fun ad h=>by injection h with h;subst h;have:=blk_lt HB.out.C;dsimp only;omega⟩⟩
  ·have hb:((p.parts.length:Int) == 0) = false:=beq_eq_false_iff_ne.mpr (fun h=>he (List.length_eq_zero_iff.mp (by omega)))
   have e:Aside0 (p.ps = p.parts):=⟨by unfold Plan.ps;rw [if_neg he]⟩
   have hpos:0 < p.parts.length:=List.length_pos_iff.mpr he
   clear he
   go_wp2
   go_meet
   exact ⟨a.A1,a.c1,by rw [e.out],⟨by rw [e.out];exact Kd.C_below HR.out.r1 HB.out.B⟩,HB,⟨fun ad h=>by obtain ⟨ad',e',h0,_⟩:=cells87 HR.out.r1 0 hpos;rw [h] at e';injection e' with e';subst e';have:=World.block_lt_of_cell? w _ h0;simp [Addr.add] at this;omega⟩⟩
 case rest=>
  obtain ⟨AP,cP,rfl,HP,HB1,HA⟩:=hcut
  clear HB
  have hn0:=p.ps_pos
  have hn1:=p.n_pos
  have hn4:p.n ≤ 4:=by unfold Plan.n;omega
  have hnp:p.n ≤ p.ps.length:=by unfold Plan.n;omega
  have lp:p.ps.length ≤ 9223372036854775807:=HP.out.2.1
  go_upto_region 5 with fail
  go_cut [5] (fun s5 wy=>s5 = .int .i64 (p.n:Int)∧Aside0 (CfgB w wy (p.cells a) (cfgCells p nilV nilV nilV nilV))∧Aside0 (Kd.C k47 wy AP p.ps.length p.ps))
  case first=>
   by_cases h4:p.ps.length < 4
   ·have e:Aside0 ((p.ps.length:Int) = (p.n:Int)):=⟨by unfold Plan.n;omega⟩
    go_wp2
    all_goals (go_meet;exact ⟨congrArg (Value.int .i64) (by have:=e.out;omega),HB1,HP⟩)
   ·have e:Aside0 ((4:Int) = (p.n:Int)):=⟨by unfold Plan.n;omega⟩
    go_wp2
    all_goals (go_meet;exact ⟨congrArg (Value.int .i64) (by have:=e.out;omega),HB1,HP⟩)
  case rest=>
   obtain ⟨rfl,HB2,HP2⟩:=hcut
   clear HB1 HP
   obtain ⟨wy,rfl⟩:∃ wy:World,wy = wc:=⟨_,rfl⟩
   go_upto_block 0 with fail
   go_cut [3] (fun s3 wz=>s3 = .pointer (some ⟨w.heap.size + 2,0,none⟩)∧∃ v1,Aside0 (CfgB w wz (p.cells a) (cfgCells p v1 nilV nilV nilV))∧Aside0 (Kd.R k51 51 wz w.heap.size (fun _=>True) v1 p.sv))
   case first=>
    go_wp2_with fail
    go_loopg [6] 4 (fun gg s6 wr=>∃ (i:Nat) (v1:Value),i ≤ p.n∧4 - i ≤ gg∧s6 = .int .i64 (i:Int)∧Aside0 (CfgB w wr (p.cells a) (cfgCells p v1 nilV nilV nilV))∧Aside0 (Kd.R k51 51 wr w.heap.size (fun k=>wy.heap.size ≤ k) v1 (p.svTo i))∧Aside0 (KeepBut wy wr (w.heap.size + 2) none))
    case atStart=>exact ⟨0,nilV,Nat.zero_le _,by omega,by rfl,HB2,⟨Kd.R_nil _ _ _ _ _⟩,⟨KeepBut.refl _ _ _⟩⟩
    case round=>
     obtain ⟨i,v1,hi,hgi,rfl,HB3,HS,HKB⟩:=hrel
     obtain ⟨wx0,rfl⟩:∃ wx:World,wx = wr:=⟨_,rfl⟩
     by_cases hlt:i < p.n
     ·obtain ⟨ad,e,e0,e1,e2,e3,e4⟩:=cells87 HP2.out i (by omega)
      have hne:=HA.out ad e
      subst e
      have hx:=ok87 (Plan.ps_ok HOK.out) i (by omega)
      have HSN:=Aside0.mk (p.svTo_succ i)
      generalize rd_T47 p.ps (i:Int) = x at e0 e1 e2 e3 e4 hx HSN
      obtain ⟨x0,x1,x2,x3,x4⟩:=x
      dsimp only at e0 e1 e2 e3 e4 hx
      obtain ⟨⟨p00,p01⟩,⟨p10,p11⟩,⟨p20,p21⟩,⟨p30,p31⟩,p40,p41⟩:=hx
      have hne1:(ad.add (i * 5)).block ≠ w.heap.size + 2:=by rw [add_block];exact hne
      replace e0:=keep_cell HKB.out e0 hne1
      replace e1:=keep_cell HKB.out e1 hne1
      replace e2:=keep_cell HKB.out e2 hne1
      replace e3:=keep_cell HKB.out e3 hne1
      replace e4:=keep_cell HKB.out e4 hne1
      have hlz:(i:Int) < (p.n:Int):=by omega
      have hlp:(i:Int) < (p.ps.length:Int):=by omega
      clear hne hne1
      go_upto_region 10 with fail
      have hx0:=blk_new wx0 (.cells #[.int .u8 x0,.int .u8 x1,.int .u8 x2,.int .u8 x3,.int .u8 x4] 47)
      have hbx0:Below wx0.heap.size wx0 (wx0.alloc (.cells #[.int .u8 x0,.int .u8 x1,.int .u8 x2,.int .u8 x3,.int .u8 x4] 47)):=below_alloc (Below.refl _ _) _
      clear e0 e1 e2 e3 e4
      generalize wx0.alloc (.cells #[.int .u8 x0,.int .u8 x1,.int .u8 x2,.int .u8 x3,.int .u8 x4] 47) = wx at hx0 hbx0 ⊢
      have HX0:=Aside0.mk hx0
      have HBX:=Aside0.mk hbx0
      clear hx0 hbx0
      go_cut [8] (fun s8 wz=>∃ sb:Nat,s8 = .pointer (some ⟨sb,0,none⟩)∧Aside0 (wz.heap[sb]? = some (.cells #[.string (nm4 i),.int .i64 (1 + x0 % 3),.int .i64 (x1 % 20),.int .i64 (x2 % 10),.int .i64 (x3 % 4 * 1000000 / 4),nilV] 51 (0,0)))∧Aside0 (wx.heap.size ≤ sb)∧Aside0 (Below wx.heap.size wx wz))
      case first=>
       refine config_part10 i p.n x0 x1 x2 x3 x4 wx0 wx HX0 hn4 hlt p00 p01 p10 p11 p20 p21 p30 p31 _ (fun _ _ N _ _ h=>by cases N <;> exact h) _ ⟨fun h=>?_⟩
       go_step
       go_meet
       exact h
      case rest=>
       obtain ⟨sb,rfl,HSB,HGE,HBW⟩:=hcut
       have HX1:=Aside0.mk (blk_below HX0.out HBW.out)
       have HXW:=Aside0.mk HX0.out
       clear HX0
       go_upto_block 2 with fail
       go_cut [8] (fun s8 wz=>∃ v:Value,s8 = .pointer (some ⟨sb,0,none⟩)∧Aside0 (wz.heap[sb]? = some (.cells #[.string (nm4 i),.int .i64 (1 + x0 % 3),.int .i64 (x1 % 20),.int .i64 (x2 % 10),.int .i64 (x3 % 4 * 1000000 / 4),v] 51 (0,0)))∧Aside0 (Kd.R Kd.string 9 wz wx.heap.size (fun _=>True) v (callsOf p.n i x4 3))∧Aside0 (Below wx.heap.size wx wz))
       case first=>
        refine config_part11 p i x0 x1 x2 x3 x4 wx0 wx wc sb HSB HGE HBW HX1 HXW hn4 hlt p40 p41 _ (fun _ _ N _ _ h=>by cases N <;> exact h) _ ⟨fun h=>?_⟩
        go_step
        go_meet
        exact h
       case rest=>
        obtain ⟨v,rfl,HSB,HRV,HBW⟩:=hcut
        have hbT:=below_step HBX.out HBW.out
        have HB4:=Aside0.mk (HB3.out.below hbT)
        have HS4:=Aside0.mk (Kd.R_below HS.out hbT)
        have HK4:=Aside0.mk (HKB.out.trans (KeepBut.of_below hbT (w.heap.size + 2) none) (.inl rfl))
        obtain ⟨A1,c1,e1⟩:=Kd.R_slice HS4.out
        subst e1
        obtain ⟨AV,cV,eV⟩:=Kd.R_slice HRV.out
        subst eV
        have HW0:=Aside0.mk (below_size HBX.out)
        have hlt1:=Aside0.mk (fun k hk=>Nat.lt_of_lt_of_le (Kd.R_lt' HS.out k hk) HW0.out)
        have HSL:=Aside0.mk (p.svTo_len i)
        have HWY:=Aside0.mk (Nat.le_trans (keep_size HKB.out) HW0.out)
        have hokp:Aside0 (∀ k,wx.heap.size ≤ k→wy.heap.size ≤ k∧some k ≠ (Value.slice A1 (p.svTo i).length c1).ownBlock):=⟨fun k hk=>⟨Nat.le_trans HWY.out hk,fun e=>by have:=hlt1.out k e.symm;omega⟩⟩
        have hrow:Aside0 ((Value.slice A1 (p.svTo i).length c1).ownBlock = none ∨ ∃ b,(Value.slice A1 (p.svTo i).length c1).ownBlock = some b∧wy.heap.size ≤ b):=⟨by
         cases h:(Value.slice A1 (p.svTo i).length c1).ownBlock with
         | none=>exact .inl rfl
         | some b=>exact .inr ⟨b,rfl,HS4.out.1 b h⟩⟩
        have hfr:Aside0 (∀ k,wc.heap.size ≤ k→wy.heap.size ≤ k):=⟨fun k hk=>Nat.le_trans (keep_size HK4.out) hk⟩
        have hneP:=Aside0.mk (Kd.R_ne HS4.out HB4.out.P (by decide))
        have hneR:=Aside0.mk (Kd.R_ne HS4.out HB4.out.R (by decide))
        have hneC:=Aside0.mk (Kd.R_ne HS4.out HB4.out.C (by decide))
        have hM:Aside0 (k51.M wc w.heap.size (fun k=>wx.heap.size ≤ k) (svOf p.n i ⟨x0,x1,x2,x3,x4⟩) [.string (nm4 i),.int .i64 (1 + x0 % 3),.int .i64 (x1 % 20),.int .i64 (x2 % 10),.int .i64 (x3 % 4 * 1000000 / 4),.slice AV (callsOf p.n i x4 3).length cV]):=⟨k51_mkM wc w.heap.size _ (svOf p.n i ⟨x0,x1,x2,x3,x4⟩) (Kd.R_lower (Kd.R_mono (Kd.R_bound HRV.out) (fun k hk=>hk.2.1)) (Nat.le_trans (below_size HB3.out.B) HW0.out))⟩
        clear HB3 HS HKB hbT
        have b1:wc.cell? ⟨w.heap.size + 1 + 1,1,none⟩ = some (.slice A1 (p.svTo i).length c1):=(blk_cell HB4.out.C 1).trans rfl
        have q0:wc.cell? ⟨sb,0,none⟩ = some (.string (nm4 i)):=(blk_cell HSB.out 0).trans rfl
        have q1:wc.cell? ⟨sb,1,none⟩ = some (.int .i64 (1 + x0 % 3)):=(blk_cell HSB.out 1).trans rfl
        have q2:wc.cell? ⟨sb,2,none⟩ = some (.int .i64 (x1 % 20)):=(blk_cell HSB.out 2).trans rfl
        have q3:wc.cell? ⟨sb,3,none⟩ = some (.int .i64 (x2 % 10)):=(blk_cell HSB.out 3).trans rfl
        have q4:wc.cell? ⟨sb,4,none⟩ = some (.int .i64 (x3 % 4 * 1000000 / 4)):=(blk_cell HSB.out 4).trans rfl
        have q5:wc.cell? ⟨sb,5,none⟩ = some (.slice AV (callsOf p.n i x4 3).length cV):=(blk_cell HSB.out 5).trans rfl
        generalize svOf p.n i ⟨x0,x1,x2,x3,x4⟩ = sx at HSN hM
        generalize (callsOf p.n i x4 3).length = nV at q5 hM
        generalize p.svTo i = sl at b1 HB4 HS4 hlt1 hokp hrow hneP hneR hneC HSL HSN
        have hlen:Aside0 ((sl.length + 1) * 72 ≤ 140737488355328):=⟨by rw [HSL.out];have:=hlt;have:=hn4;omega⟩
        clear HRV HSB hlt1
        go_wp2_with (at_builtin;refine Kd.R_append k51 (w0:=w) w.heap.size rfl _ _ 29 51 _ 72 rfl Tryz.underlying29 info51 rfl (by decide) (by decide) (.slice A1 sl.length c1) sl sx [.string (nm4 i),.int .i64 (1 + x0 % 3),.int .i64 (x1 % 20),.int .i64 (x2 % 10),.int .i64 (x3 % 4 * 1000000 / 4),.slice AV nV cV] (fun k=>wy.heap.size ≤ k) (fun k=>wx.heap.size ≤ k) rfl ?c4 ?c5 ?c6 ?c7 ?c8 ?c9 ?c10 ?c3 ?_;(case c4=>rfl);(case c5=>with_reducible exact hM.out);(case c6=>exact hokp.out);(case c7=>exact hfr.out);(case c8=>exact HS4.out);(case c9=>exact HB4.out.B);(case c10=>exact HB4.out.B.size);(case c3=>exact hlen.out);intro v7 w7 hr7 hb7 hg7 ho7;obtain ⟨A7,c7,e7⟩:=Kd.R_slice hr7;rw [List.length_append,List.length_singleton] at e7;subst e7;have HR7:=Aside0.mk hr7;have HB7:=Aside0.mk (HB4.out.grown hg7 hb7 hneP.out hneR.out hneC.out);have HK7:=Aside0.mk (HK4.out.trans (KeepBut.of_grown hg7 (w.heap.size + 2)) hrow.out);have y1:w7.cell? ⟨w.heap.size + 1 + 1,1,none⟩ = some (.slice A1 sl.length c1):=(blk_cell HB7.out.C 1).trans rfl;have y2:w7.frozen? ⟨w.heap.size + 1 + 1,1,none⟩ = false:=blk_frozen HB7.out.C 1;clear hr7 hb7 hg7 ho7 b1 q0 q1 q2 q3 q4 q5)
        go_roundg (4 - (i + 1))
        case measure=>omega
        case rel=>exact ⟨i + 1,_,by omega,by omega,by go_num,⟨HB7.out.set 1 _⟩,⟨by rw [HSN.out];exact Kd.R_set HR7.out HB7.out.C (by decide) 1 _⟩,⟨HK7.out.set_ 1 _⟩⟩
     ·obtain rfl:i = p.n:=by omega
      have hz:decide (p.n < p.n) = false:=by simp
      have hz2:decide ((p.n:Int) < (p.n:Int)) = false:=by simp
      clear hlt
      go_wp2
      go_meet
      exact ⟨rfl,v1,HB3,⟨Kd.R_mono HS.out (fun _ _=>trivial)⟩⟩
   case rest=>
    obtain ⟨rfl,v1,HB3,HS⟩:=hcut
    rename_i hK
    exact hK _ _ (config_part2 p a w _ v1 HR HOK HB3 HS)
end Go.Proofs.YtdadnapfecmmdaaGreat.P
namespace Go.Proofs.YtdadnapfecmmdaaGreat.P
set_option linter.unusedVariables false
set_option linter.unusedSimpArgs false
open Go.RowKit Go.Proofs.YtdadnapfecmmdaaGreatW.PrintWords Go.Proofs.YtdadnapfecmmdaaGreatW.PrintLast Go.Proofs.YtdadnapfecmmdaaGreatW.PrintMore
structure Sp where
 tr:Int
 id:Int
 par:Int
 rev:Int
 clk:Int
 kind:Int
 svc:ByteArray
 ver:ByteArray
 op:ByteArray
 st:Int
 en:Int
 err:Bool
def Sp.cells (s:Sp):List Value:=[.int .i64 s.tr,.int .i64 s.id,.int .i64 s.par,.int .i64 s.rev,.int .i64 s.clk,.int .i64 s.kind,.string s.svc,.string s.ver,.string s.op,.int .i64 s.st,.int .i64 s.en,.bool s.err,.slice none 0 0,.slice none 0 0]
theorem Sp.cells_len (s:Sp):s.cells.length = 14:=rfl
def spc:List Sp→List Value
 | []=>[]
 | s::r=>s.cells ++ spc r
theorem spc_len (l:List Sp):(spc l).length = l.length * 14:=by
 induction l with
 | nil=>rfl
 | cons s r ih=>simp only [spc,List.length_append,Sp.cells_len,ih,List.length_cons];omega
theorem spc_snoc (l:List Sp) (s:Sp):spc (l ++ [s]) = spc l ++ s.cells:=by
 induction l with
 | nil=>simp [spc]
 | cons a r ih=>simp [spc,ih]
theorem spc_get (l:List Sp) (j i:Nat) (hj:j < l.length) (hi:i < 14):(spc l)[j * 14 + i]? = (l[j].cells)[i]?:=by
 induction l generalizing j with
 | nil=>simp at hj
 | cons a r ih=>
  cases j with
  | zero=>
   simp only [spc,Nat.zero_mul,Nat.zero_add,List.getElem_cons_zero]
   rw [List.getElem?_append_left (by rw [Sp.cells_len];exact hi)]
  | succ j=>
   simp only [spc,List.getElem_cons_succ]
   rw [List.getElem?_append_right (by rw [Sp.cells_len];omega),Sp.cells_len,show (j + 1) * 14 + i - 14 = j * 14 + i from by omega]
   exact ih j (by simpa using hj)
theorem spc_set (l:List Sp) (j i:Nat) (u:Value) (s:Sp) (hj:j < l.length) (hi:i < 14) (hs:(l[j].cells).set i u = s.cells):(spc l).set (j * 14 + i) u = spc (l.set j s):=by
 induction l generalizing j with
 | nil=>simp at hj
 | cons a r ih=>
  cases j with
  | zero=>
   simp only [spc,Nat.zero_mul,Nat.zero_add,List.set_cons_zero]
   rw [List.set_append_left _ _ (by rw [Sp.cells_len];exact hi)]
   simp only [List.getElem_cons_zero] at hs
   rw [hs]
  | succ j=>
   simp only [spc,List.set_cons_succ]
   rw [List.set_append_right _ _ (by rw [Sp.cells_len];omega),Sp.cells_len,show (j + 1) * 14 + i - 14 = j * 14 + i from by omega]
   rw [ih j (by simpa using hj) (by simpa using hs)]
def SpR (W:World) (g base:Nat) (l:List Sp):Prop:=∃ v,W.heap[g]? = some (.cells #[v] 68 (0,0))∧W.ownsRow base 74 14 v l.length (spc l)
def KeepT (W W':World) (g:Nat):Prop:=W.heap.size ≤ W'.heap.size∧∀ i,i < W.heap.size→i ≠ g→(∀ cs fr,W.heap[i]? ≠ some (.cells cs 74 fr))→W'.heap[i]? = W.heap[i]?
theorem KeepT.refl (W:World) (g:Nat):KeepT W W g:=⟨Nat.le_refl _,fun _ _ _ _=>rfl⟩
theorem KeepT.trans {W W1 W2:World} {g:Nat} (h:KeepT W W1 g) (k:KeepT W1 W2 g):KeepT W W2 g:=
 ⟨Nat.le_trans h.1 k.1,fun i hi hg hn=>by
  have h1:=h.2 i hi hg hn
  rw [k.2 i (Nat.lt_of_lt_of_le hi h.1) hg (fun cs fr=>by rw [h1];exact hn cs fr),h1]⟩
theorem KeepT.of_below {W W1:World} (h:Below W.heap.size W W1) (g:Nat):KeepT W W1 g:=⟨h.size,fun i hi _ _=>h.block i hi⟩
theorem KeepT.blk {W W':World} {g b:Nat} {o:Obj} (h:KeepT W W' g) (hb:W.heap[b]? = some o) (hg:b ≠ g) (ho:∀ cs fr,o ≠ .cells cs 74 fr):W'.heap[b]? = some o:=
 (h.2 b (blk_lt hb) hg (fun cs fr=>by rw [hb];intro e;exact ho cs fr (Option.some.inj e))).trans hb
theorem KeepT.cellsBlk {W W':World} {g b:Nat} {cs:Array Value} {t:TypeId} (h:KeepT W W' g) (hb:W.heap[b]? = some (.cells cs t (0,0))) (hg:b ≠ g) (ht:t ≠ 74):W'.heap[b]? = some (.cells cs t (0,0)):=
 h.blk hb hg (fun _ _ e=>by injection e with _ e2;exact ht e2)
theorem KeepT.grown {W W':World} {g:Nat} {v:Value} {base n:Nat} {xs:List Value} (hv:W.ownsRow base 74 14 v n xs) (h:W.grownBy W' v.ownBlock):KeepT W W' g:=
 ⟨h.size,fun i hi _ hn=>h.block i hi (fun e=>by
  obtain ⟨cells,hc⟩:=own_typed hv i e.symm
  exact hn cells (0,0) hc)⟩
abbrev svCells (x:S51) (A5:Option Addr) (c5:Nat):Array Value:=#[.string x.f0,.int .i64 x.f1,.int .i64 x.f2,.int .i64 x.f3,.int .i64 x.f4,.slice A5 x.f5.length c5]
set_option maxHeartbeats 4000000 in
set_option maxRecDepth 100000 in
theorem begin_calls (W w0:World) (bsp bt base:Nat) (t:Int) (l:List Sp) (x:S51) (A5:Option Addr) (c5:Nat) (parent kind at_:Int) (op ver:ByteArray)
  (hT:W.heap[bt]? = some (.cells #[.int .i64 t] 3 (0,0))) (hS:SpR W bsp base l) (hbb:base ≤ bsp) (hlen:l.length < 1000) (hB:Below base w0 W) (hbase:base ≤ W.heap.size):
  Calls Tryz.prog 80 #[.agg (svCells x A5 c5),.int .i64 parent,.int .i64 kind,.int .i64 at_,.string op,.string ver,.pointer (some ⟨bsp,0,none⟩),.pointer (some ⟨bt,0,none⟩)] W fun e w'=>
   e = .returned (.int .i64 ((l.length:Int) + 1))∧SpR w' bsp base (l ++ [⟨t,(l.length:Int) + 1,parent,0,x.f1,kind,x.f0,ver,op,at_,0,false⟩])∧KeepT W w' bsp∧Below base w0 w':=by
 obtain ⟨v,hv,hown⟩:=hS
 obtain ⟨A,cp,rfl⟩:=own_slice hown
 have qT:W.cell? ⟨bt,0,none⟩ = some (.int .i64 t):=(blk_cell hT 0).trans rfl
 have qS:W.cell? ⟨bsp,0,none⟩ = some (.slice A l.length cp):=(blk_cell hv 0).trans rfl
 have hlt1:=blk_lt hT
 have hlt2:=blk_lt hv
 have HV:=Aside0.mk hv
 have HO:=Aside0.mk hown
 have HB:=Aside0.mk hB
 have HT:=Aside0.mk hT
 have hne1:bt ≠ W.heap.size:=by omega
 have hne2:bsp ≠ W.heap.size:=by omega
 clear hv hown hB hT
 obtain ⟨f0,f1,f2,f3,f4,f5⟩:=x
 unfold svCells
 dsimp only
 generalize f5.length = n5
 have hneq:∀ _:Unit,some bsp ≠ (Value.slice A l.length cp).ownBlock:=fun _=>own_ne HO.out HV.out (by decide)
 have hvb:∀ o:Obj,(W.alloc o).heap[bsp]? = some (.cells #[.slice A l.length cp] 68 (0,0)):=fun o=>blk_alloc HV.out o
 have EO:=Aside0.mk (spc_snoc l ⟨t,(l.length:Int) + 1,parent,0,f1,kind,f0,ver,op,at_,0,false⟩)
 go_enter Tryz.func80,Tryz.ntmps80
 go_wp2_with (at_builtin;go_must (refine print_append_cells (w0:=w0) base rfl _ _ 68 74 _ 14 168 rfl Tryz.underlying68 info74 rfl (by decide) (by decide) (.slice A l.length cp) l.length (spc l) [.int .i64 t,.int .i64 ((l.length:Int) + 1),.int .i64 parent,.int .i64 0,.int .i64 f1,.int .i64 kind,.string f0,.string ver,.string op,.int .i64 at_,.int .i64 0,.bool false,.slice none 0 0,.slice none 0 0] rfl ?c4 rfl ?c1 (HO.out.alloc _) (HB.out.alloc hbase _) ?c2 ?c3 ?_;(case c1=>intro u hu;simp at hu;rcases hu with rfl | rfl | rfl | rfl | rfl | rfl | rfl | rfl | rfl | rfl | rfl | rfl | rfl | rfl <;> rfl);(case c4=>show Value.slice (some ⟨W.heap.size + 1,0,none⟩) 1 1 = _;simp);(case c2=>simp;omega);(case c3=>omega);intro v1 w1 hown1 hb1 hg1 hat1;obtain ⟨A1,cp1,rfl⟩:=own_slice hown1;have HW:=Aside0.mk hown1;have HG:=Aside0.mk hg1;have HB1:=Aside0.mk hb1;have hvv:w1.heap[bsp]? = some (.cells #[.slice A l.length cp] 68 (0,0)):=hg1.block bsp (by simp;omega) (hneq ()) |>.trans (hvb _);have qv:w1.cell? ⟨bsp,0,none⟩ = some (.slice A l.length cp):=(blk_cell hvv 0).trans rfl;have fv:=blk_frozen hvv 0;have HVV:=Aside0.mk hvv;clear hown1 hg1 hb1 hat1 hvv))
 go_ret
 have hne:some bsp ≠ (Value.slice A1 (l.length + 1) cp1).ownBlock:=own_ne HW.out HVV.out (by decide)
 refine ⟨by rfl,⟨.slice A1 (l.length + 1) cp1,?_,?_⟩,?_,?_⟩
 ·have h:=blk_set HVV.out 0 (.slice A1 (l.length + 1) cp1)
  simpa using h
 ·rw [EO.out,List.length_append,List.length_singleton]
  exact own_setCell HW.out hne _
 ·refine ((KeepT.of_below (below_alloc (Below.refl _ _) _) bsp).trans (KeepT.grown (HO.out.alloc _) HG.out)).trans ⟨by simp,fun i _ hi _=>Below.heap_setCell _ _ _ i hi⟩
 ·exact HB1.out.setCell hbb _
end Go.Proofs.YtdadnapfecmmdaaGreat.P
namespace Go.Proofs.YtdadnapfecmmdaaGreat.P
open Go.RowKit Go.Proofs.YtdadnapfecmmdaaGreatW.PrintWords Go.Proofs.YtdadnapfecmmdaaGreatW.PrintLast Go.Proofs.YtdadnapfecmmdaaGreatW.PrintMore
attribute [local go_sem] max2_int min2_int max_two min_two max_three min_three max_four min_four   -- for this text's walks alone
set_option linter.unusedVariables false
set_option linter.unusedSimpArgs false
def checksum_Word.f (a0:Int) (a1:Int):Option (Int):=some (Go.bits .xor .u64 (IntKind.u64.wrap ((Go.bits .xor .u64 (IntKind.u64.wrap ((Go.bits .xor .u64 (IntKind.u64.wrap ((IntKind.u64.wrap (a0 * 11400714819323198485)) + a1)) ((IntKind.u64.wrap ((IntKind.u64.wrap (a0 * 11400714819323198485)) + a1)) / 1073741824)) * 13787848793156543929)) ((IntKind.u64.wrap ((Go.bits .xor .u64 (IntKind.u64.wrap ((IntKind.u64.wrap (a0 * 11400714819323198485)) + a1)) ((IntKind.u64.wrap ((IntKind.u64.wrap (a0 * 11400714819323198485)) + a1)) / 1073741824)) * 13787848793156543929)) / 134217728)) * 10723151780598845931)) ((IntKind.u64.wrap ((Go.bits .xor .u64 (IntKind.u64.wrap ((Go.bits .xor .u64 (IntKind.u64.wrap ((IntKind.u64.wrap (a0 * 11400714819323198485)) + a1)) ((IntKind.u64.wrap ((IntKind.u64.wrap (a0 * 11400714819323198485)) + a1)) / 1073741824)) * 13787848793156543929)) ((IntKind.u64.wrap ((Go.bits .xor .u64 (IntKind.u64.wrap ((IntKind.u64.wrap (a0 * 11400714819323198485)) + a1)) ((IntKind.u64.wrap ((IntKind.u64.wrap (a0 * 11400714819323198485)) + a1)) / 1073741824)) * 13787848793156543929)) / 134217728)) * 10723151780598845931)) / 2147483648))
set_option maxHeartbeats 8000000 in
set_option maxRecDepth 100000 in
theorem checksum_Word.calls (a0:Int) (a1:Int) (r:Int) (w:World) (h:checksum_Word.f a0 a1 = some r):
  Calls Tryz.prog 58 #[.int .u64 a0,.int .u64 a1] w fun e w'=>e = .returned (.int .u64 r)∧Drawn0 w w':=by
 have H:(some (Go.bits .xor .u64 (IntKind.u64.wrap ((Go.bits .xor .u64 (IntKind.u64.wrap ((Go.bits .xor .u64 (IntKind.u64.wrap ((IntKind.u64.wrap (a0 * 11400714819323198485)) + a1)) ((IntKind.u64.wrap ((IntKind.u64.wrap (a0 * 11400714819323198485)) + a1)) / 1073741824)) * 13787848793156543929)) ((IntKind.u64.wrap ((Go.bits .xor .u64 (IntKind.u64.wrap ((IntKind.u64.wrap (a0 * 11400714819323198485)) + a1)) ((IntKind.u64.wrap ((IntKind.u64.wrap (a0 * 11400714819323198485)) + a1)) / 1073741824)) * 13787848793156543929)) / 134217728)) * 10723151780598845931)) ((IntKind.u64.wrap ((Go.bits .xor .u64 (IntKind.u64.wrap ((Go.bits .xor .u64 (IntKind.u64.wrap ((IntKind.u64.wrap (a0 * 11400714819323198485)) + a1)) ((IntKind.u64.wrap ((IntKind.u64.wrap (a0 * 11400714819323198485)) + a1)) / 1073741824)) * 13787848793156543929)) ((IntKind.u64.wrap ((Go.bits .xor .u64 (IntKind.u64.wrap ((IntKind.u64.wrap (a0 * 11400714819323198485)) + a1)) ((IntKind.u64.wrap ((IntKind.u64.wrap (a0 * 11400714819323198485)) + a1)) / 1073741824)) * 13787848793156543929)) / 134217728)) * 10723151780598845931)) / 2147483648))) = some r:=h
 clear h
 obtain rfl:=Option.some.inj H
 go_enter Tryz.func58,Tryz.ntmps58
 go_wp2
 go_ret
 exact ⟨by first | rfl | (simp;done) | (simp [*];done),by repeat (first | exact Drawn0.refl _ | apply Drawn0.step)⟩
def checksum_Mix.f (a0:Int) (a1:Int):Option (Int):=(checksum_Word.f (IntKind.u64.wrap (a0)) (IntKind.u64.wrap (a1))).bind fun t111=>(some (wrap64 (t111 / 4)))
set_option maxHeartbeats 8000000 in
set_option maxRecDepth 100000 in
theorem checksum_Mix.calls (a0:Int) (a1:Int) (r:Int) (w:World) (h:checksum_Mix.f a0 a1 = some r):
  Calls Tryz.prog 36 #[.int .i64 a0,.int .i64 a1] w fun e w'=>e = .returned (.int .i64 r)∧Drawn0 w w':=by
 have H:((checksum_Word.f (IntKind.u64.wrap (a0)) (IntKind.u64.wrap (a1))).bind fun t111=>(some (wrap64 (t111 / 4)))) = some r:=h
 clear h
 replace H:=Option.bind_eq_some_iff.mp H
 obtain ⟨t111,A30,H⟩:=H
 replace H:(some (wrap64 (t111 / 4))) = some r:=H
 have A3:=Aside0.mk A30
 clear A30
 obtain rfl:=Option.some.inj H
 go_enter Tryz.func36,Tryz.ntmps36
 go_wp2_with (first | ((with_reducible refine gate_callee (f:=58) rfl ?_);refine goesL_ (some 9) rfl rfl Tryz.func58 (by kernel_rfl) rfl #[.int .u64 (IntKind.u64.wrap (a0)),.int .u64 (IntKind.u64.wrap (a1))] rfl (by (try simp only [List.map_toArray,List.map_cons,List.map_nil]);first | done | rfl | (simp only [List.length_drop,List.length_take];rfl)) ?_;(with_reducible refine (checksum_Word.calls (IntKind.u64.wrap (a0)) (IntKind.u64.wrap (a1)) t111 _ A3.out).mono ?_);rintro e w' ⟨rfl,⟨nd,rfl⟩⟩;refine ⟨_,rfl,?_⟩))
 go_ret
 exact ⟨by first | rfl | (simp;done) | (simp [*];done),by repeat (first | exact Drawn0.refl _ | apply Drawn0.step)⟩
def simulate_Roll.f (a0_0:Int) (l0_1:List (S51)) (l0_2:List (S54)) (l0_3:List (S98)) (l0_4:List (S61)) (a0_5:Int) (a0_6:Int) (a0_7:Int) (a0_8:Int) (a0_9:Int) (a0_10:Int) (a0_11:Int) (a1:Int) (a2:Int) (a3:Int):Option (Int):=(checksum_Mix.f a0_0 a1).bind fun t113=>((checksum_Mix.f t113 a2).bind fun t114=>((checksum_Mix.f t114 a3).bind fun t115=>(some t115)))
set_option maxHeartbeats 8000000 in
set_option maxRecDepth 100000 in
theorem simulate_Roll.calls (a0_0:Int) (A0_1:Option Addr) (c0_1:Nat) (l0_1:List (S51)) (A0_2:Option Addr) (c0_2:Nat) (l0_2:List (S54)) (A0_3:Option Addr) (c0_3:Nat) (l0_3:List (S98)) (A0_4:Option Addr) (c0_4:Nat) (l0_4:List (S61)) (a0_5:Int) (a0_6:Int) (a0_7:Int) (a0_8:Int) (a0_9:Int) (a0_10:Int) (a0_11:Int) (a1:Int) (a2:Int) (a3:Int) (r:Int) (w:World) (hr0_1:Kd.C k51 w A0_1 l0_1.length l0_1) (hc0_1:l0_1.length ≤ c0_1) (hr0_2:Kd.C k54 w A0_2 l0_2.length l0_2) (hc0_2:l0_2.length ≤ c0_2) (hr0_3:Kd.C k98 w A0_3 l0_3.length l0_3) (hc0_3:l0_3.length ≤ c0_3) (hr0_4:Kd.C k61 w A0_4 l0_4.length l0_4) (hc0_4:l0_4.length ≤ c0_4) (h:simulate_Roll.f a0_0 l0_1 l0_2 l0_3 l0_4 a0_5 a0_6 a0_7 a0_8 a0_9 a0_10 a0_11 a1 a2 a3 = some r):
  Calls Tryz.prog 18 #[.agg #[.int .i64 a0_0,.slice A0_1 l0_1.length c0_1,.slice A0_2 l0_2.length c0_2,.slice A0_3 l0_3.length c0_3,.slice A0_4 l0_4.length c0_4,.int .i64 a0_5,.int .i64 a0_6,.int .i64 a0_7,.int .i64 a0_8,.int .i64 a0_9,.int .i64 a0_10,.int .i64 a0_11],.int .i64 a1,.int .i64 a2,.int .i64 a3] w fun e w'=>e = .returned (.int .i64 r)∧Below w.heap.size w w':=by
 have hu36:=Tryz.underlying36
 have HR0_1:=Aside0.mk hr0_1
 have HC0_1:=Aside0.mk hc0_1
 clear hr0_1 hc0_1
 have HR0_2:=Aside0.mk hr0_2
 have HC0_2:=Aside0.mk hc0_2
 clear hr0_2 hc0_2
 have HR0_3:=Aside0.mk hr0_3
 have HC0_3:=Aside0.mk hc0_3
 clear hr0_3 hc0_3
 have HR0_4:=Aside0.mk hr0_4
 have HC0_4:=Aside0.mk hc0_4
 clear hr0_4 hc0_4
 have HB:=Aside0.mk (Below.refl w.heap.size w)
 have H:((checksum_Mix.f a0_0 a1).bind fun t113=>((checksum_Mix.f t113 a2).bind fun t114=>((checksum_Mix.f t114 a3).bind fun t115=>(some t115)))) = some r:=h
 clear h
 replace H:=Option.bind_eq_some_iff.mp H
 obtain ⟨t113,A50,H⟩:=H
 replace H:((checksum_Mix.f t113 a2).bind fun t114=>((checksum_Mix.f t114 a3).bind fun t115=>(some t115))) = some r:=H
 have A5:=Aside0.mk A50
 clear A50
 replace H:=Option.bind_eq_some_iff.mp H
 obtain ⟨t114,A60,H⟩:=H
 replace H:((checksum_Mix.f t114 a3).bind fun t115=>(some t115)) = some r:=H
 have A6:=Aside0.mk A60
 clear A60
 replace H:=Option.bind_eq_some_iff.mp H
 obtain ⟨t115,A70,H⟩:=H
 replace H:(some t115) = some r:=H
 have A7:=Aside0.mk A70
 clear A70
 obtain rfl:=Option.some.inj H
 go_enter Tryz.func18,Tryz.ntmps18
 go_wp2_with (first | ((with_reducible refine gate_dst (N:=4) rfl ?_);refine box_event ?hg (N:=4) ?hd (cs:=#[.int .i64 a0_0,.slice A0_1 l0_1.length c0_1,.slice A0_2 l0_2.length c0_2,.slice A0_3 l0_3.length c0_3,.slice A0_4 l0_4.length c0_4,.int .i64 a0_5,.int .i64 a0_6,.int .i64 a0_7,.int .i64 a0_8,.int .i64 a0_9,.int .i64 a0_10,.int .i64 a0_11]) (t:=36) ?hr ?_;(case hd=>rfl);(case hg=>rfl);(case hr=>first | (go_simp;done) | (go_simp;rfl));intro gb112 hg w8 hbox hb;have n0_:=Aside0.mk (below_step (by repeat (first | (with_reducible first | exact HB.out | apply below_alloc | apply pw_below_drewN | apply below_drew1) | exact HB.out)) hb);have n1_:=Aside0.mk (hbox);have n2_:=Aside0.mk ((by rw [hg];exact (below_size (by repeat (first | (with_reducible first | exact HB.out | apply below_alloc | apply pw_below_drewN | apply below_drew1) | exact HB.out))):w.heap.size ≤ gb112));have n3_:=Aside0.mk ((by rw [hg];exact (below_size (by repeat (first | (with_reducible first | exact HB.out | apply below_alloc | apply pw_below_drewN | apply below_drew1) | exact HB.out))):w.heap.size ≤ gb112));clear HB;have HB:=n0_;have BK112:=n1_;have GW112:=n2_;have GE112:=n3_;clear n0_ n1_ n2_ n3_;clear hb hbox hg;have hcz9_0:w8.cell? ⟨gb112,0,none⟩ = some (.int .i64 a0_0):=(blk_cell BK112.out 0).trans rfl;have hcz9_1:w8.cell? ⟨gb112,1,none⟩ = some (.slice A0_1 l0_1.length c0_1):=(blk_cell BK112.out 1).trans rfl;have hcz9_2:w8.cell? ⟨gb112,2,none⟩ = some (.slice A0_2 l0_2.length c0_2):=(blk_cell BK112.out 2).trans rfl;have hcz9_3:w8.cell? ⟨gb112,3,none⟩ = some (.slice A0_3 l0_3.length c0_3):=(blk_cell BK112.out 3).trans rfl;have hcz9_4:w8.cell? ⟨gb112,4,none⟩ = some (.slice A0_4 l0_4.length c0_4):=(blk_cell BK112.out 4).trans rfl;have hcz9_5:w8.cell? ⟨gb112,5,none⟩ = some (.int .i64 a0_5):=(blk_cell BK112.out 5).trans rfl;have hcz9_6:w8.cell? ⟨gb112,6,none⟩ = some (.int .i64 a0_6):=(blk_cell BK112.out 6).trans rfl;have hcz9_7:w8.cell? ⟨gb112,7,none⟩ = some (.int .i64 a0_7):=(blk_cell BK112.out 7).trans rfl;have hcz9_8:w8.cell? ⟨gb112,8,none⟩ = some (.int .i64 a0_8):=(blk_cell BK112.out 8).trans rfl;have hcz9_9:w8.cell? ⟨gb112,9,none⟩ = some (.int .i64 a0_9):=(blk_cell BK112.out 9).trans rfl;have hcz9_10:w8.cell? ⟨gb112,10,none⟩ = some (.int .i64 a0_10):=(blk_cell BK112.out 10).trans rfl;have hcz9_11:w8.cell? ⟨gb112,11,none⟩ = some (.int .i64 a0_11):=(blk_cell BK112.out 11).trans rfl;have hfz9_0:=blk_frozen BK112.out 0;have hfz9_1:=blk_frozen BK112.out 1;have hfz9_2:=blk_frozen BK112.out 2;have hfz9_3:=blk_frozen BK112.out 3;have hfz9_4:=blk_frozen BK112.out 4;have hfz9_5:=blk_frozen BK112.out 5;have hfz9_6:=blk_frozen BK112.out 6;have hfz9_7:=blk_frozen BK112.out 7;have hfz9_8:=blk_frozen BK112.out 8;have hfz9_9:=blk_frozen BK112.out 9;have hfz9_10:=blk_frozen BK112.out 10;have hfz9_11:=blk_frozen BK112.out 11) | ((with_reducible refine gate_callee (f:=36) rfl ?_);refine goesL_ (some 12) rfl rfl Tryz.func36 (by kernel_rfl) rfl #[.int .i64 a0_0,.int .i64 a1] rfl (by (try simp only [List.map_toArray,List.map_cons,List.map_nil]);first | done | rfl | (simp only [List.length_drop,List.length_take];rfl)) ?_;(with_reducible refine (checksum_Mix.calls a0_0 a1 t113 _ A5.out).mono ?_);rintro e w' ⟨rfl,⟨nd,rfl⟩⟩;refine ⟨_,rfl,?_⟩) | ((with_reducible refine gate_callee (f:=36) rfl ?_);refine goesL_ (some 14) rfl rfl Tryz.func36 (by kernel_rfl) rfl #[.int .i64 t113,.int .i64 a2] rfl (by (try simp only [List.map_toArray,List.map_cons,List.map_nil]);first | done | rfl | (simp only [List.length_drop,List.length_take];rfl)) ?_;(with_reducible refine (checksum_Mix.calls t113 a2 t114 _ A6.out).mono ?_);rintro e w' ⟨rfl,⟨nd,rfl⟩⟩;refine ⟨_,rfl,?_⟩) | ((with_reducible refine gate_callee (f:=36) rfl ?_);refine goesL_ (some 16) rfl rfl Tryz.func36 (by kernel_rfl) rfl #[.int .i64 t114,.int .i64 a3] rfl (by (try simp only [List.map_toArray,List.map_cons,List.map_nil]);first | done | rfl | (simp only [List.length_drop,List.length_take];rfl)) ?_;(with_reducible refine (checksum_Mix.calls t114 a3 t115 _ A7.out).mono ?_);rintro e w' ⟨rfl,⟨nd,rfl⟩⟩;refine ⟨_,rfl,?_⟩))
 go_ret
 exact ⟨by first | rfl | (simp [errW_none,errW_some] <;> rfl) | (simp [*,errW_none,errW_some] <;> rfl),by repeat (first | (with_reducible first | exact HB.out | apply below_alloc | apply pw_below_drewN | apply below_drew1 | refine below_set ?_ GE112.out) | exact HB.out)⟩
def deployment_has.f (a0_0:Int) (a0_1:Int) (a1:Int):Option (Bool):=if a0_0 ≤ a1 then (some (decide (a1 < a0_1))) else (some false)
set_option maxHeartbeats 8000000 in
set_option maxRecDepth 100000 in
theorem deployment_has.calls (a0_0:Int) (a0_1:Int) (a1:Int) (r:Bool) (w:World) (h:deployment_has.f a0_0 a0_1 a1 = some r):
  Calls Tryz.prog 96 #[.agg #[.int .i64 a0_0,.int .i64 a0_1],.int .i64 a1] w fun e w'=>e = .returned (.bool r)∧Below w.heap.size w w':=by
 have hu34:=Tryz.underlying34
 have HB:=Aside0.mk (Below.refl w.heap.size w)
 have H:(if a0_0 ≤ a1 then (some (decide (a1 < a0_1))) else (some false)) = some r:=h
 clear h
 by_cases c3:a0_0 ≤ a1
 ·rw [if_pos c3] at H
  have c3b0:decide (a0_0 ≤ a1) = true:=decide_eq_true c3
  clear c3
  obtain rfl:=Option.some.inj H
  go_enter Tryz.func96,Tryz.ntmps96
  go_wp2_with (first | ((with_reducible refine gate_dst (N:=2) rfl ?_);refine box_event ?hg (N:=2) ?hd (cs:=#[.int .i64 a0_0,.int .i64 a0_1]) (t:=34) ?hr ?_;(case hd=>rfl);(case hg=>rfl);(case hr=>first | (go_simp;done) | (go_simp;rfl));intro gb139 hg w4 hbox hb;have n0_:=Aside0.mk (below_step (by repeat (first | (with_reducible first | exact HB.out | apply below_alloc | apply pw_below_drewN | apply below_drew1) | exact HB.out)) hb);have n1_:=Aside0.mk (hbox);have n2_:=Aside0.mk ((by rw [hg];exact (below_size (by repeat (first | (with_reducible first | exact HB.out | apply below_alloc | apply pw_below_drewN | apply below_drew1) | exact HB.out))):w.heap.size ≤ gb139));have n3_:=Aside0.mk ((by rw [hg];exact (below_size (by repeat (first | (with_reducible first | exact HB.out | apply below_alloc | apply pw_below_drewN | apply below_drew1) | exact HB.out))):w.heap.size ≤ gb139));clear HB;have HB:=n0_;have BK139:=n1_;have GW139:=n2_;have GE139:=n3_;clear n0_ n1_ n2_ n3_;clear hb hbox hg;have hcz5_0:w4.cell? ⟨gb139,0,none⟩ = some (.int .i64 a0_0):=(blk_cell BK139.out 0).trans rfl;have hcz5_1:w4.cell? ⟨gb139,1,none⟩ = some (.int .i64 a0_1):=(blk_cell BK139.out 1).trans rfl;have hfz5_0:=blk_frozen BK139.out 0;have hfz5_1:=blk_frozen BK139.out 1))
  go_ret
  exact ⟨by first | rfl | (simp [errW_none,errW_some] <;> rfl) | (simp [*,errW_none,errW_some] <;> rfl),by repeat (first | (with_reducible first | exact HB.out | apply below_alloc | apply pw_below_drewN | apply below_drew1 | refine below_set ?_ GE139.out) | exact HB.out)⟩
 ·rw [if_neg c3] at H
  have c3b0:decide (a0_0 ≤ a1) = false:=decide_eq_false c3
  clear c3
  obtain rfl:=Option.some.inj H
  go_enter Tryz.func96,Tryz.ntmps96
  go_wp2_with (first | ((with_reducible refine gate_dst (N:=2) rfl ?_);refine box_event ?hg (N:=2) ?hd (cs:=#[.int .i64 a0_0,.int .i64 a0_1]) (t:=34) ?hr ?_;(case hd=>rfl);(case hg=>rfl);(case hr=>first | (go_simp;done) | (go_simp;rfl));intro gb139 hg w6 hbox hb;have n0_:=Aside0.mk (below_step (by repeat (first | (with_reducible first | exact HB.out | apply below_alloc | apply pw_below_drewN | apply below_drew1) | exact HB.out)) hb);have n1_:=Aside0.mk (hbox);have n2_:=Aside0.mk ((by rw [hg];exact (below_size (by repeat (first | (with_reducible first | exact HB.out | apply below_alloc | apply pw_below_drewN | apply below_drew1) | exact HB.out))):w.heap.size ≤ gb139));have n3_:=Aside0.mk ((by rw [hg];exact (below_size (by repeat (first | (with_reducible first | exact HB.out | apply below_alloc | apply pw_below_drewN | apply below_drew1) | exact HB.out))):w.heap.size ≤ gb139));clear HB;have HB:=n0_;have BK139:=n1_;have GW139:=n2_;have GE139:=n3_;clear n0_ n1_ n2_ n3_;clear hb hbox hg;have hcz7_0:w6.cell? ⟨gb139,0,none⟩ = some (.int .i64 a0_0):=(blk_cell BK139.out 0).trans rfl;have hcz7_1:w6.cell? ⟨gb139,1,none⟩ = some (.int .i64 a0_1):=(blk_cell BK139.out 1).trans rfl;have hfz7_0:=blk_frozen BK139.out 0;have hfz7_1:=blk_frozen BK139.out 1))
  go_ret
  exact ⟨by first | rfl | (simp [errW_none,errW_some] <;> rfl) | (simp [*,errW_none,errW_some] <;> rfl),by repeat (first | (with_reducible first | exact HB.out | apply below_alloc | apply pw_below_drewN | apply below_drew1 | refine below_set ?_ GE139.out) | exact HB.out)⟩
theorem eqA188 (d:Nat) (w:World) (x0 y0:Int) (x1 y1:ByteArray) (x2 y2:ByteArray):
  (Op.equalIn (d + 2) 188 (.agg #[.int .i64 x0,.string x1,.string x2]) (.agg #[.int .i64 y0,.string y1,.string y2])).run Tryz.prog w = .ok (x0 == y0 && (x1.toList == y1.toList && (x2.toList == y2.toList))) w:=by
 refine eqA_of Tryz.underlying188 (by kernel_rfl) ?_
 refine eqf_cons (by rfl) (by go_simp;rfl) (by go_simp;rfl) (by go_simp) ?_
 refine eqf_cons (by rfl) (by go_simp;rfl) (by go_simp;rfl) (by go_simp) ?_
 exact eqf_last (by rfl) (by go_simp;rfl) (by go_simp;rfl) (by go_simp)
def deployment_subjectOf.f (a0_0:Int) (a0_1:Int) (a0_2:Int) (a0_3:ByteArray) (a0_4:ByteArray) (a0_5:ByteArray):Option (Int × ByteArray × ByteArray):=some (a0_1,a0_3,a0_4)
set_option maxHeartbeats 8000000 in
set_option maxRecDepth 100000 in
theorem deployment_subjectOf.calls (a0_0:Int) (a0_1:Int) (a0_2:Int) (a0_3:ByteArray) (a0_4:ByteArray) (a0_5:ByteArray) (r1:Int) (r2:ByteArray) (r3:ByteArray) (w:World) (h:deployment_subjectOf.f a0_0 a0_1 a0_2 a0_3 a0_4 a0_5 = some (r1,r2,r3)):
  Calls Tryz.prog 109 #[.agg #[.int .i64 a0_0,.int .i64 a0_1,.int .i64 a0_2,.string a0_3,.string a0_4,.string a0_5]] w fun e w'=>e = .returned (.agg #[.int .i64 r1,.string r2,.string r3])∧Below w.heap.size w w':=by
 have hu98:=Tryz.underlying98
 have hu188:=Tryz.underlying188
 have HB:=Aside0.mk (Below.refl w.heap.size w)
 have H:(some (a0_1,a0_3,a0_4)) = some (r1,r2,r3):=h
 clear h
 simp only [Option.some.injEq,Prod.mk.injEq] at H
 obtain ⟨rfl,rfl,rfl⟩:=H
 go_enter Tryz.func109,Tryz.ntmps109
 go_wp2_with (first | ((with_reducible refine gate_dst (N:=1) rfl ?_);refine box_event ?hg (N:=1) ?hd (cs:=#[.int .i64 a0_0,.int .i64 a0_1,.int .i64 a0_2,.string a0_3,.string a0_4,.string a0_5]) (t:=98) ?hr ?_;(case hd=>rfl);(case hg=>rfl);(case hr=>first | (go_simp;done) | (go_simp;rfl));intro gb140 hg w2 hbox hb;have n0_:=Aside0.mk (below_step (by repeat (first | (with_reducible first | exact HB.out | apply below_alloc | apply pw_below_drewN | apply below_drew1) | exact HB.out)) hb);have n1_:=Aside0.mk (hbox);have n2_:=Aside0.mk ((by rw [hg];exact (below_size (by repeat (first | (with_reducible first | exact HB.out | apply below_alloc | apply pw_below_drewN | apply below_drew1) | exact HB.out))):w.heap.size ≤ gb140));have n3_:=Aside0.mk ((by rw [hg];exact (below_size (by repeat (first | (with_reducible first | exact HB.out | apply below_alloc | apply pw_below_drewN | apply below_drew1) | exact HB.out))):w.heap.size ≤ gb140));clear HB;have HB:=n0_;have BK140:=n1_;have GW140:=n2_;have GE140:=n3_;clear n0_ n1_ n2_ n3_;clear hb hbox hg) | ((with_reducible refine gate_dst (N:=2) rfl ?_);refine box_event ?hg (N:=2) ?hd (cs:=#[.int .i64 0,.string (⟨#[]⟩:ByteArray),.string (⟨#[]⟩:ByteArray)]) (t:=188) ?hr ?_;(case hd=>rfl);(case hg=>rfl);(case hr=>first | (go_simp;done) | (go_simp;rfl));intro gb141 hg w3 hbox hb;have n0_:=Aside0.mk (blk_below (g:=gb140) (o:=.cells #[.int .i64 a0_0,.int .i64 a0_1,.int .i64 a0_2,.string a0_3,.string a0_4,.string a0_5] 98 (0,0)) (by (with_reducible repeat (first | refine blk_drewN ?_ _ | refine blk_drew ?_ | refine blk_alloc ?_ _));exact BK140.out) hb);have n1_:=Aside0.mk (below_step (by repeat (first | (with_reducible first | exact HB.out | apply below_alloc | apply pw_below_drewN | apply below_drew1 | refine below_set ?_ GE140.out) | exact HB.out)) hb);have n2_:=Aside0.mk (hbox);have n3_:=Aside0.mk ((by rw [hg];exact (below_size (by repeat (first | (with_reducible first | exact HB.out | apply below_alloc | apply pw_below_drewN | apply below_drew1 | refine below_set ?_ GE140.out) | exact HB.out))):w.heap.size ≤ gb141));have n4_:=Aside0.mk ((by rw [hg];exact (below_size (by repeat (first | (with_reducible first | exact HB.out | apply below_alloc | apply pw_below_drewN | apply below_drew1 | refine below_set ?_ GE140.out) | exact HB.out))):w.heap.size ≤ gb141));have n5_:=Aside0.mk ((by rw [hg];exact Nat.ne_of_lt (blk_lt (g:=gb140) (o:=.cells #[.int .i64 a0_0,.int .i64 a0_1,.int .i64 a0_2,.string a0_3,.string a0_4,.string a0_5] 98 (0,0)) (by (with_reducible repeat (first | refine blk_drewN ?_ _ | refine blk_drew ?_ | refine blk_alloc ?_ _));exact BK140.out)):gb140 ≠ gb141));have n6_:=Aside0.mk ((by rw [hg];exact Nat.ne_of_gt (blk_lt (g:=gb140) (o:=.cells #[.int .i64 a0_0,.int .i64 a0_1,.int .i64 a0_2,.string a0_3,.string a0_4,.string a0_5] 98 (0,0)) (by (with_reducible repeat (first | refine blk_drewN ?_ _ | refine blk_drew ?_ | refine blk_alloc ?_ _));exact BK140.out)):gb141 ≠ gb140));clear BK140;clear HB;have BK140:=n0_;have HB:=n1_;have BK141:=n2_;have GW141:=n3_;have GE141:=n4_;have NB140_141:=n5_;have NB141_140:=n6_;clear n0_ n1_ n2_ n3_ n4_ n5_ n6_;clear hb hbox hg;have hnb4:=NB140_141.out;have hnc4:=NB141_140.out;have hcz5_0:w3.cell? ⟨gb140,0,none⟩ = some (.int .i64 a0_0):=(blk_cell BK140.out 0).trans rfl;have hcz5_1:w3.cell? ⟨gb140,1,none⟩ = some (.int .i64 a0_1):=(blk_cell BK140.out 1).trans rfl;have hcz5_2:w3.cell? ⟨gb140,2,none⟩ = some (.int .i64 a0_2):=(blk_cell BK140.out 2).trans rfl;have hcz5_3:w3.cell? ⟨gb140,3,none⟩ = some (.string a0_3):=(blk_cell BK140.out 3).trans rfl;have hcz5_4:w3.cell? ⟨gb140,4,none⟩ = some (.string a0_4):=(blk_cell BK140.out 4).trans rfl;have hcz5_5:w3.cell? ⟨gb140,5,none⟩ = some (.string a0_5):=(blk_cell BK140.out 5).trans rfl;have hfz5_0:=blk_frozen BK140.out 0;have hfz5_1:=blk_frozen BK140.out 1;have hfz5_2:=blk_frozen BK140.out 2;have hfz5_3:=blk_frozen BK140.out 3;have hfz5_4:=blk_frozen BK140.out 4;have hfz5_5:=blk_frozen BK140.out 5;have hcz6_0:w3.cell? ⟨gb141,0,none⟩ = some (.int .i64 0):=(blk_cell BK141.out 0).trans rfl;have hcz6_1:w3.cell? ⟨gb141,1,none⟩ = some (.string (⟨#[]⟩:ByteArray)):=(blk_cell BK141.out 1).trans rfl;have hcz6_2:w3.cell? ⟨gb141,2,none⟩ = some (.string (⟨#[]⟩:ByteArray)):=(blk_cell BK141.out 2).trans rfl;have hfz6_0:=blk_frozen BK141.out 0;have hfz6_1:=blk_frozen BK141.out 1;have hfz6_2:=blk_frozen BK141.out 2))
 refine bodyPost_ret (results_cell_row rfl _ _ gb141 188 #[.int .i64 a0_1,.string a0_3,.string a0_4] (0,0) _ rfl (by (with_reducible repeat (first | refine blk_drewN ?_ _ | refine blk_drew ?_ | refine blk_alloc ?_ _));refine blk_put (cs:=#[.int .i64 a0_1,.string a0_3,.string (⟨#[]⟩:ByteArray)]) ?_ 2 _ rfl;(with_reducible repeat (first | refine blk_drewN ?_ _ | refine blk_drew ?_ | refine blk_alloc ?_ _));refine blk_put (cs:=#[.int .i64 a0_1,.string (⟨#[]⟩:ByteArray),.string (⟨#[]⟩:ByteArray)]) ?_ 1 _ rfl;(with_reducible repeat (first | refine blk_drewN ?_ _ | refine blk_drew ?_ | refine blk_alloc ?_ _));refine blk_put (cs:=#[.int .i64 0,.string (⟨#[]⟩:ByteArray),.string (⟨#[]⟩:ByteArray)]) ?_ 0 _ rfl;(with_reducible repeat (first | refine blk_drewN ?_ _ | refine blk_drew ?_ | refine blk_alloc ?_ _));exact BK141.out) Tryz.underlying188 rfl (by kernel_rfl)) rfl ?_
 exact ⟨by first | rfl | (simp [errW_none,errW_some] <;> rfl) | (simp [*,errW_none,errW_some] <;> rfl),by repeat (first | (with_reducible first | exact HB.out | apply below_alloc | apply pw_below_drewN | apply below_drew1 | refine below_set ?_ GE140.out | refine below_set ?_ GE141.out) | exact HB.out)⟩
end Go.Proofs.YtdadnapfecmmdaaGreat.P
namespace Go.Proofs.YtdadnapfecmmdaaGreat.P
set_option linter.unusedVariables false
set_option linter.unusedSimpArgs false
open Go.RowKit Go.Proofs.YtdadnapfecmmdaaGreatW.PrintWords Go.Proofs.YtdadnapfecmmdaaGreatW.PrintLast Go.Proofs.YtdadnapfecmmdaaGreatW.PrintMore
attribute [local go_sem high] eqA188
def deployment_effect.l0:Nat→List (S98)→Int→List (S98)→Int→Int→Int→Int→Option (Int × Int)
 | 0,_,_,_,_,_,_,_=>none
 | k + 1,x0,x1,x17,x18,x19,x145000,x145001=>if x19 < x18 then (if 0 ≤ x19 then (if x19 < (x17.length:Int) then ((deployment_subjectOf.f ((rd_T98 x17 x19).f0) ((rd_T98 x17 x19).f1) ((rd_T98 x17 x19).f2) ((rd_T98 x17 x19).f3) ((rd_T98 x17 x19).f4) ((rd_T98 x17 x19).f5)).bind fun bt151=>(if 0 ≤ x1 then (if x1 < (x0.length:Int) then ((deployment_subjectOf.f ((rd_T98 x0 x1).f0) ((rd_T98 x0 x1).f1) ((rd_T98 x0 x1).f2) ((rd_T98 x0 x1).f3) ((rd_T98 x0 x1).f4) ((rd_T98 x0 x1).f5)).bind fun bt155=>(if (bt151.1 == bt155.1 && (bt151.2.1.toList == bt155.2.1.toList && (bt151.2.2.toList == bt155.2.2.toList))) = true then (if x145000 ≥ ((rd_T98 x17 x19).f2) then (some (0,0)) else (some (x145000,(rd_T98 x17 x19).f2))) else (deployment_effect.l0 k x0 x1 x17 x18 (wrap64 (x19 + 1)) x145000 x145001))) else (none)) else (none))) else (none)) else (none)) else (if x145000 ≥ x145001 then (some (0,0)) else (some (x145000,x145001)))
def deployment_effect.f (k:Nat) (l0:List (S98)) (a1:Int):Option (Int × Int):=if 0 ≤ a1 then (if a1 < (l0.length:Int) then (if 0 ≤ (wrap64 (a1 + 1)) then (if (wrap64 (a1 + 1)) ≤ (l0.length:Int) then ((some (l0.drop ((wrap64 (a1 + 1)):Int).toNat:List (S98))).bind fun y145=>(deployment_effect.l0 k l0 a1 y145 (y145.length:Int) 0 ((rd_T98 l0 a1).f2) 1048577)) else (none)) else (none)) else (none)) else (none)
def efT.T5:Bool × List (List Nat × List Nat):=(true,[([],[]),([0],[0]),([],[]),([],[]),([2,3],[2,3]),([4],[4]),([5,1],[5]),([1,6],[1,6])])
def efT.B5:List Nat:=[0,1,0,0,12,28,63,127]
theorem efT.tab5:rtab .any (opsOf Tryz.f97 5) = efT.T5:=by kernel_rfl
theorem efT.bits5:waitsOk efT.T5.2 efT.B5 = true:=by kernel_rfl
theorem eff_fill2 {W:World} {g:Nat} {ty:TypeId} {z0 z1:Value} (h:W.heap[g]? = some (.cells #[z0,z1] ty (0,0))) (v0 v1:Value):((W.setCell ⟨g,0,none⟩ v0).setCell ⟨g,1,none⟩ v1).heap[g]? = some (.cells #[v0,v1] ty (0,0)):=by
 have h0:=blk_set h 0 v0
 simp only [List.setIfInBounds_toArray,List.set_cons_zero,List.set_cons_succ] at h0
 have h1:=blk_set h0 1 v1
 simp only [List.setIfInBounds_toArray,List.set_cons_zero,List.set_cons_succ] at h1
 exact h1
theorem eff_step (k:Nat) (l y:List S98) (a i:Nat) (f t:Int) (r:Int × Int) (hi:i < y.length) (ha:a < l.length) (hw:wrap64 ((i:Int) + 1) = (i:Int) + 1) (h:deployment_effect.l0 k l (a:Int) y (y.length:Int) (i:Int) f t = some r):
  ∃ k',((rd_T98 y i).f1 == (rd_T98 l a).f1 && ((rd_T98 y i).f3.toList == (rd_T98 l a).f3.toList && ((rd_T98 y i).f4.toList == (rd_T98 l a).f4.toList))) = true∧(if f ≥ (rd_T98 y i).f2 then ((0:Int),(0:Int)) else (f,(rd_T98 y i).f2)) = r ∨
   ((rd_T98 y i).f1 == (rd_T98 l a).f1 && ((rd_T98 y i).f3.toList == (rd_T98 l a).f3.toList && ((rd_T98 y i).f4.toList == (rd_T98 l a).f4.toList))) = false∧deployment_effect.l0 k' l (a:Int) y (y.length:Int) ((i:Int) + 1) f t = some r:=by
 cases k with
 | zero=>cases h
 | succ k=>
  refine ⟨k,?_⟩
  simp only [deployment_effect.l0,deployment_subjectOf.f,Option.bind_some] at h
  rw [if_pos (by omega),if_pos (by omega),if_pos (by omega),if_pos (by omega),if_pos (by omega),hw] at h
  cases hb:((rd_T98 y i).f1 == (rd_T98 l a).f1 && ((rd_T98 y i).f3.toList == (rd_T98 l a).f3.toList && ((rd_T98 y i).f4.toList == (rd_T98 l a).f4.toList))) with
  | true=>
   rw [hb,if_pos rfl] at h
   refine .inl ⟨rfl,?_⟩
   split at h
   ·rename_i hc;rw [if_pos hc];exact Option.some.inj h
   ·rename_i hc;rw [if_neg hc];exact Option.some.inj h
  | false=>
   rw [hb,if_neg (by decide)] at h
   exact .inr ⟨rfl,h⟩
theorem eff_end (k:Nat) (l y:List S98) (a:Int) (f t:Int) (r:Int × Int) (h:deployment_effect.l0 k l a y (y.length:Int) (y.length:Int) f t = some r):(if f ≥ t then ((0:Int),(0:Int)) else (f,t)) = r:=by
 cases k with
 | zero=>cases h
 | succ k=>
  simp only [deployment_effect.l0] at h
  rw [if_neg (by omega)] at h
  split at h
  ·rename_i hc;rw [if_pos hc];exact Option.some.inj h
  ·rename_i hc;rw [if_neg hc];exact Option.some.inj h
theorem eff_open (k:Nat) (l:List S98) (a1:Int) (r:Int × Int) (hl:l.length ≤ 9223372036854775807) (h:deployment_effect.f k l a1 = some r):∃ a:Nat,a1 = (a:Int)∧a < l.length∧deployment_effect.l0 k l (a:Int) (l.drop (a + 1)) ((l.drop (a + 1)).length:Int) 0 (rd_T98 l a).f2 1048577 = some r:=by
 unfold deployment_effect.f at h
 by_cases h0:0 ≤ a1
 ·by_cases h1:a1 < (l.length:Int)
  ·obtain ⟨a,rfl⟩:∃ a:Nat,a1 = (a:Int):=⟨a1.toNat,by omega⟩
   have e:wrap64 ((a:Int) + 1) = ((a + 1:Nat):Int):=by unfold wrap64;omega
   rw [e,if_pos h0,if_pos h1,if_pos (by omega),if_pos (by omega),Int.toNat_natCast] at h
   exact ⟨a,rfl,by omega,h⟩
  ·rw [if_pos h0,if_neg h1] at h;cases h
 ·rw [if_neg h0] at h;cases h
set_option maxHeartbeats 4000000 in
set_option maxRecDepth 100000 in
theorem deployment_effect.calls (k:Nat) (A0:Option Addr) (c0:Nat) (l0:List (S98)) (a1:Int) (r1:Int) (r2:Int) (w:World) (hr0:Kd.C k98 w A0 l0.length l0) (hc0:l0.length ≤ c0) (h:deployment_effect.f k l0 a1 = some (r1,r2)):
  Calls Tryz.prog 97 #[.slice A0 l0.length c0,.int .i64 a1] w fun e w'=>e = .returned (.agg #[.int .i64 r1,.int .i64 r2])∧Below w.heap.size w w':=by
 have hl:=hr0.2.1
 obtain ⟨a,rfl,ha,h⟩:=eff_open k l0 a1 (r1,r2) hl h
 have HC:=Aside0.mk hr0
 have hdr:=Kd.C_drop (m:=a + 1) hr0 (by omega) hc0
 rw [List.length_drop] at hdr
 have hsz6:k98.sz = 6:=rfl
 rw [hsz6] at hdr
 obtain ⟨i0,hi0,_,hsz,_⟩:=info_parts info98
 have hcutB:=cut_from (P:=Tryz.prog) 31 98 .i64 Tryz.underlying31 hi0 6 hsz A0 l0.length c0 ((a:Int) + 1) (by omega) (by omega)
 rw [show ((a:Int) + 1).toNat = a + 1 from by omega] at hcutB
 obtain ⟨AY,hAY⟩:∃ AY,AY = (if c0 = a + 1 then A0 else A0.map (·.add ((a + 1) * 6))):=⟨_,rfl⟩
 rw [← hAY] at hcutB hdr
 obtain ⟨y,hy⟩:∃ y,y = l0.drop (a + 1):=⟨_,rfl⟩
 rw [← hy] at h hdr
 have hyl:l0.length - (a + 1) = y.length:=by rw [hy,List.length_drop]
 rw [hyl] at hdr hcutB
 have HF:=Aside0.mk h
 have HY:=Aside0.mk hdr
 clear h hdr hsz6 hi0 hsz hAY hy hyl
 obtain ⟨ad,e,p0,p1,p2,p3,p4,p5⟩:=at_T98 hr0 (a:Int) (by omega) (by omega)
 subst e
 clear hr0
 simp only [Int.toNat_natCast] at p0 p1 p2 p3 p4 p5
 have hyb:y.length ≤ 9223372036854775807:=HY.out.2.1
 have hza:(a:Int) < (l0.length:Int):=by omega
 have sa1:IntKind.i64.wrap ((a:Int) + 1) = (a:Int) + 1:=IntWalk.i64_in _ (by omega)
 have P0:=Aside0.mk p0
 have P1:=Aside0.mk p1
 have P2:=Aside0.mk p2
 have P3:=Aside0.mk p3
 have P4:=Aside0.mk p4
 have P5:=Aside0.mk p5
 go_enter Tryz.func97,Tryz.ntmps97
 go_upto_region 1 with fail
 have hn4:=blk_new w (Obj.cells #[.int .i64 0,.int .i64 0] 34)
 have hb4:=below_alloc (Below.refl w.heap.size w) (Obj.cells #[.int .i64 0,.int .i64 0] 34)
 have hs4:(w.alloc (Obj.cells #[.int .i64 0,.int .i64 0] 34)).heap.size = w.heap.size + 1:=by simp
 generalize w.alloc (Obj.cells #[.int .i64 0,.int .i64 0] 34) = wa at hn4 hb4 hs4 ⊢
 replace p0:=below_at hb4 p0
 replace p1:=below_at hb4 p1
 replace p2:=below_at hb4 p2
 replace p3:=below_at hb4 p3
 replace p4:=below_at hb4 p4
 replace p5:=below_at hb4 p5
 go_upto_region 2 with fail
 clear p0 p1 p2 p3 p4 p5
 have hn5:=blk_new wa (Obj.cells #[.int .i64 (rd_T98 l0 (a:Int)).f2,.int .i64 1048577] 34)
 have hb5:=below_alloc (Below.refl wa.heap.size wa) (Obj.cells #[.int .i64 (rd_T98 l0 (a:Int)).f2,.int .i64 1048577] 34)
 rw [hs4] at hn5
 have HBZ:=Aside0.mk (blk_below hn4 hb5)
 have HBO:=Aside0.mk hn5
 have HB:=Aside0.mk (below_step hb4 hb5)
 generalize wa.alloc (Obj.cells #[.int .i64 (rd_T98 l0 (a:Int)).f2,.int .i64 1048577] 34) = wb at HBZ HBO HB ⊢
 clear hn4 hb4 hs4 hn5 hb5
 go_wp2_with fail
 clear sa1 hcutB
 obtain ⟨f0,hf0⟩:∃ f0,f0 = (rd_T98 l0 (a:Int)).f2:=⟨_,rfl⟩
 rw [← hf0] at HF HBO ⊢
 have HF0:=Aside0.mk hf0
 clear hf0
 go_loopg [19] y.length (fun gg s19 wr=>∃ (i kq:Nat),s19 = .int .i64 (i:Int)∧i ≤ y.length∧y.length - i ≤ gg∧Aside0 (deployment_effect.l0 kq l0 (a:Int) y (y.length:Int) (i:Int) f0 1048577 = some (r1,r2))∧Aside0 (wr.heap[w.heap.size]? = some (.cells #[.int .i64 0,.int .i64 0] 34 (0,0)))∧Aside0 (wr.heap[w.heap.size + 1]? = some (.cells #[.int .i64 f0,.int .i64 1048577] 34 (0,0)))∧Aside0 (Below w.heap.size w wr))
 case atStart=>exact ⟨0,k,by rfl,by omega,by omega,HF,HBZ,HBO,HB⟩
 case round=>
  clear HF HBZ HBO HB
  obtain ⟨i,kq,rfl,hi,hgi,HF,HBZ,HBO,HB⟩:=hrel
  by_cases hlt:i < y.length
  ·have hz1:(i:Int) < (y.length:Int):=by omega
   have si1:IntKind.i64.wrap ((i:Int) + 1) = (i:Int) + 1:=IntWalk.i64_in _ (by omega)
   obtain ⟨k',hst⟩:=eff_step kq l0 y a i f0 1048577 (r1,r2) hlt ha (by unfold wrap64;omega) HF.out
   have HST:=Aside0.mk hst
   clear hst HF
   obtain ⟨ay,e,s0,s1,s2,s3,s4,s5⟩:=at_T98 (Kd.C_below HY.out HB.out) (i:Int) (by omega) (by omega)
   subst e
   simp only [Int.toNat_natCast] at s0 s1 s2 s3 s4 s5
   have p0:=(HB.out.cell (World.block_lt_of_cell? _ _ P0.out)).trans P0.out
   have p1:=(HB.out.cell (World.block_lt_of_cell? _ _ P1.out)).trans P1.out
   have p2:=(HB.out.cell (World.block_lt_of_cell? _ _ P2.out)).trans P2.out
   have p3:=(HB.out.cell (World.block_lt_of_cell? _ _ P3.out)).trans P3.out
   have p4:=(HB.out.cell (World.block_lt_of_cell? _ _ P4.out)).trans P4.out
   have p5:=(HB.out.cell (World.block_lt_of_cell? _ _ P5.out)).trans P5.out
   generalize rd_T98 y (i:Int) = u at HST s0 s1 s2 s3 s4 s5
   rw [← HF0.out] at p2
   generalize rd_T98 l0 (a:Int) = v at HST HF0 p0 p1 p2 p3 p4 p5
   obtain ⟨u0,u1,u2,u3,u4,u5⟩:=u
   obtain ⟨v0,v1,v2,v3,v4,v5⟩:=v
   dsimp only at HST HF0 s0 s1 s2 s3 s4 s5 p0 p1 p2 p3 p4 p5
   go_upto_region 5 with fail
   have hbs:=below_alloc (Below.refl wr.heap.size wr) (Obj.cells #[.int .i64 u0,.int .i64 u1,.int .i64 u2,.string u3,.string u4,.string u5] 98)
   have hg:=blk_new wr (Obj.cells #[.int .i64 u0,.int .i64 u1,.int .i64 u2,.string u3,.string u4,.string u5] 98)
   generalize wr.alloc (Obj.cells #[.int .i64 u0,.int .i64 u1,.int .i64 u2,.string u3,.string u4,.string u5] 98) = wx at hbs hg ⊢
   replace HBZ:=Aside0.mk (blk_below HBZ.out hbs)
   replace HBO:=Aside0.mk (blk_below HBO.out hbs)
   replace HB:=Aside0.mk (below_step HB.out hbs)
   replace p0:=below_at hbs p0
   replace p1:=below_at hbs p1
   replace p2:=below_at hbs p2
   replace p3:=below_at hbs p3
   replace p4:=below_at hbs p4
   replace p5:=below_at hbs p5
   clear hbs s0 s1 s2 s3 s4 s5
   generalize wr.heap.size = gx at hg ⊢
   have s0:wx.cell? ⟨gx,0,none⟩ = some (.int .i64 u0):=(blk_cell hg 0).trans rfl
   have s1:wx.cell? ⟨gx,1,none⟩ = some (.int .i64 u1):=(blk_cell hg 1).trans rfl
   have s2:wx.cell? ⟨gx,2,none⟩ = some (.int .i64 u2):=(blk_cell hg 2).trans rfl
   have s3:wx.cell? ⟨gx,3,none⟩ = some (.string u3):=(blk_cell hg 3).trans rfl
   have s4:wx.cell? ⟨gx,4,none⟩ = some (.string u4):=(blk_cell hg 4).trans rfl
   have s5:wx.cell? ⟨gx,5,none⟩ = some (.string u5):=(blk_cell hg 5).trans rfl
   have HG:=Aside0.mk hg
   clear hg
   refine start_ (n:=8) (S:=fun w'=>Below wx.heap.size wx w') (ds:=[]) (bq 8 0) (by kernel_rfl) rfl rfl (Below.refl _ _).drew (fun hHeld=>?_)
   refine with_tabW efT.tab5 efT.bits5 (fun HT_ HW_=>?_)
   generalize wx.drew = wd at hHeld ⊢
   refine tk_ 0 (some 23) (bq 8 1) HT_ HW_ rfl rfl hHeld ?_ (by intro w' hS;replace s0:=below_at hS s0;replace s1:=below_at hS s1;replace s2:=below_at hS s2;replace s3:=below_at hS s3;replace s4:=below_at hS s4;replace s5:=below_at hS s5;go_simp;with_reducible rfl)
   refine pu_ 2 (some 25) (bq 8 5) HT_ rfl rfl ?_
   refine pu_ 3 (some 26) (bq 8 13) HT_ rfl rfl ?_
   refine pu_ 4 (some 27) (bq 8 29) HT_ rfl rfl ?_
   refine tk_ 5 (some 28) (bq 8 61) HT_ HW_ rfl rfl hHeld ?_ (by intro w' hS;replace p0:=below_at hS p0;replace p1:=below_at hS p1;replace p2:=below_at hS p2;replace p3:=below_at hS p3;replace p4:=below_at hS p4;replace p5:=below_at hS p5;go_simp;with_reducible rfl)
   refine one_ (i:=1) (N:=some 24) (bq 8 63) rfl rfl (one_of HT_.out (by kernel_rfl)) (by decide) (fun K hK=>?_)
   refine goes_ Tryz.func109 (by kernel_rfl) rfl #[.agg #[.int .i64 u0,.int .i64 u1,.int .i64 u2,.string u3,.string u4,.string u5]] (by rfl) rfl rfl (by (try simp only [List.map_toArray,List.map_cons,List.map_nil]);first | done | rfl) ?_
   with_reducible refine (deployment_subjectOf.calls u0 u1 u2 u3 u4 u5 u1 u3 u4 _ rfl).mono ?_
   rintro e wy ⟨rfl,hb⟩
   refine ⟨_,rfl,?_⟩
   replace hHeld:=below_step hHeld hb
   clear hb
   refine hK.out _ _ hHeld (fun hHeld=>?_)
   clear hK K
   refine norm_ (a':=?_) ?_ ?_
   rotate_left
   ·show Act.put _ (some 24) _ = _
    simp only [Act.put,List.setIfInBounds_toArray,List.set_cons_zero,List.set_cons_succ,i64_w,i32_w]
    rfl
   refine one_ (i:=6) (N:=some 29) (bq 8 127) rfl rfl (one_of HT_.out (by kernel_rfl)) (by decide) (fun K hK=>?_)
   refine goes_ Tryz.func109 (by kernel_rfl) rfl #[.agg #[.int .i64 v0,.int .i64 v1,.int .i64 f0,.string v3,.string v4,.string v5]] (by rfl) rfl rfl (by (try simp only [List.map_toArray,List.map_cons,List.map_nil]);first | done | rfl) ?_
   with_reducible refine (deployment_subjectOf.calls v0 v1 f0 v3 v4 v5 v1 v3 v4 _ rfl).mono ?_
   rintro e wz ⟨rfl,hb⟩
   refine ⟨_,rfl,?_⟩
   replace hHeld:=below_step hHeld hb
   clear hb
   refine hK.out _ _ hHeld (fun hHeld=>?_)
   clear hK K
   refine norm_ (a':=?_) ?_ ?_
   rotate_left
   ·show Act.put _ (some 29) _ = _
    simp only [Act.put,List.setIfInBounds_toArray,List.set_cons_zero,List.set_cons_succ,i64_w,i32_w]
    rfl
   refine pu_ 7 (some 30) (bq 8 255) HT_ rfl rfl ?_
   refine done_ (done_of HT_.out (by kernel_rfl)) ?_
   replace HBZ:=Aside0.mk (blk_below HBZ.out hHeld)
   replace HBO:=Aside0.mk (blk_below HBO.out hHeld)
   replace HB:=Aside0.mk (below_step HB.out hHeld)
   replace HG:=Aside0.mk (blk_below HG.out hHeld)
   clear hHeld s0 s1 s2 s3 s4 s5 p0 p1 p2 p3 p4 p5
   generalize (u1 == v1 && (u3.toList == v3.toList && u4.toList == v4.toList)) = bb at HST ⊢
   cases bb with
   | true=>
    have HR:Aside0 ((if f0 ≥ u2 then ((0:Int),(0:Int)) else (f0,u2)) = (r1,r2)):=⟨by
     rcases HST.out with ⟨_,h⟩ | ⟨h,_⟩
     ·exact h
     ·cases h⟩
    have y2:wz.cell? ⟨gx,2,none⟩ = some (.int .i64 u2):=(blk_cell HG.out 2).trans rfl
    have f1:=blk_frozen HBO.out 1
    have y3:wz.cell? ⟨w.heap.size + 1,1,none⟩ = some (.int .i64 1048577):=(blk_cell HBO.out 1).trans rfl
    go_upto_region 8 with fail
    have hbo:=blk_set HBO.out 1 (.int .i64 u2)
    simp only [List.setIfInBounds_toArray,List.set_cons_zero,List.set_cons_succ] at hbo
    replace HBZ:=Aside0.mk (blk_far HBZ.out (show w.heap.size ≠ w.heap.size + 1 by omega) (.int .i64 u2) (p:=⟨w.heap.size + 1,1,none⟩))
    replace HB:=Aside0.mk (HB.out.setCell (p:=⟨w.heap.size + 1,1,none⟩) (by show w.heap.size ≤ w.heap.size + 1;omega) (.int .i64 u2))
    generalize wz.setCell ⟨w.heap.size + 1,1,none⟩ (.int .i64 u2) = wq at hbo HBZ HB ⊢
    clear y2 y3 f1
    have y4:wq.cell? ⟨w.heap.size + 1,0,none⟩ = some (.int .i64 f0):=(blk_cell hbo 0).trans rfl
    have y5:wq.cell? ⟨w.heap.size + 1,1,none⟩ = some (.int .i64 u2):=(blk_cell hbo 1).trans rfl
    have z0:=blk_frozen HBZ.out 0
    have z1:=blk_frozen HBZ.out 1
    have z2:wq.cell? ⟨w.heap.size,0,none⟩ = some (.int .i64 0):=(blk_cell HBZ.out 0).trans rfl
    have z3:wq.cell? ⟨w.heap.size,1,none⟩ = some (.int .i64 0):=(blk_cell HBZ.out 1).trans rfl
    clear hbo
    by_cases hge:f0 ≥ u2
    ·have hz2:decide (f0 ≥ u2) = true:=decide_eq_true hge
     have hz3:decide (u2 ≤ f0) = true:=decide_eq_true hge
     have hr:=HR.out
     rw [if_pos hge] at hr
     injection hr with e1 e2
     have E1:=Aside0.mk e1
     have E2:=Aside0.mk e2
     clear e1 e2
     go_wp2_with fail
     refine bodyPost_ret (results_cell_row rfl _ _ w.heap.size 34 #[.int .i64 0,.int .i64 0] (0,0) _ rfl (eff_fill2 HBZ.out _ _) Tryz.underlying34 rfl (by kernel_rfl)) rfl ?_
     exact ⟨by rw [← E1.out,← E2.out];try rfl,(HB.out.setCell (p:=⟨w.heap.size,0,none⟩) (Nat.le_refl _) _).setCell (p:=⟨w.heap.size,1,none⟩) (Nat.le_refl _) _⟩
    ·have hz2:decide (f0 ≥ u2) = false:=decide_eq_false hge
     have hz3:decide (u2 ≤ f0) = false:=decide_eq_false hge
     have hr:=HR.out
     rw [if_neg hge] at hr
     injection hr with e1 e2
     have E1:=Aside0.mk e1
     have E2:=Aside0.mk e2
     clear e1 e2
     go_wp2_with fail
     refine bodyPost_ret (results_cell_row rfl _ _ w.heap.size 34 #[.int .i64 f0,.int .i64 u2] (0,0) _ rfl (eff_fill2 HBZ.out _ _) Tryz.underlying34 rfl (by kernel_rfl)) rfl ?_
     exact ⟨by rw [← E1.out,← E2.out];try rfl,(HB.out.setCell (p:=⟨w.heap.size,0,none⟩) (Nat.le_refl _) _).setCell (p:=⟨w.heap.size,1,none⟩) (Nat.le_refl _) _⟩
   | false=>
    have HN:Aside0 (deployment_effect.l0 k' l0 (a:Int) y (y.length:Int) ((i:Int) + 1) f0 1048577 = some (r1,r2)):=⟨by
     rcases HST.out with ⟨h,_⟩ | ⟨_,h⟩
     ·cases h
     ·exact h⟩
    go_wp2_with fail
    go_roundg (y.length - (i + 1))
    case measure=>omega
    case rel=>exact ⟨i + 1,k',by first | rfl | go_num,by omega,Nat.le_refl _,HN,HBZ,HBO,HB⟩
  ·obtain rfl:i = y.length:=by omega
   have hz1:decide ((y.length:Int) < (y.length:Int)) = false:=by simp
   have hz0:decide (y.length < y.length) = false:=by simp
   have HR:=Aside0.mk (eff_end kq l0 y (a:Int) f0 1048577 (r1,r2) HF.out)
   clear HF
   have y4:wr.cell? ⟨w.heap.size + 1,0,none⟩ = some (.int .i64 f0):=(blk_cell HBO.out 0).trans rfl
   have y5:wr.cell? ⟨w.heap.size + 1,1,none⟩ = some (.int .i64 1048577):=(blk_cell HBO.out 1).trans rfl
   have z0:=blk_frozen HBZ.out 0
   have z1:=blk_frozen HBZ.out 1
   have z2:wr.cell? ⟨w.heap.size,0,none⟩ = some (.int .i64 0):=(blk_cell HBZ.out 0).trans rfl
   have z3:wr.cell? ⟨w.heap.size,1,none⟩ = some (.int .i64 0):=(blk_cell HBZ.out 1).trans rfl
   by_cases hge:f0 ≥ 1048577
   ·have hz2:decide (f0 ≥ 1048577) = true:=decide_eq_true hge
    have hz3:decide (1048577 ≤ f0) = true:=decide_eq_true hge
    have hr:=HR.out
    rw [if_pos hge] at hr
    injection hr with e1 e2
    have E1:=Aside0.mk e1
    have E2:=Aside0.mk e2
    clear e1 e2
    go_wp2_with fail
    refine bodyPost_ret (results_cell_row rfl _ _ w.heap.size 34 #[.int .i64 0,.int .i64 0] (0,0) _ rfl (eff_fill2 HBZ.out _ _) Tryz.underlying34 rfl (by kernel_rfl)) rfl ?_
    exact ⟨by rw [← E1.out,← E2.out];try rfl,(HB.out.setCell (p:=⟨w.heap.size,0,none⟩) (Nat.le_refl _) _).setCell (p:=⟨w.heap.size,1,none⟩) (Nat.le_refl _) _⟩
   ·have hz2:decide (f0 ≥ 1048577) = false:=decide_eq_false hge
    have hz3:decide (1048577 ≤ f0) = false:=decide_eq_false hge
    have hr:=HR.out
    rw [if_neg hge] at hr
    injection hr with e1 e2
    have E1:=Aside0.mk e1
    have E2:=Aside0.mk e2
    clear e1 e2
    go_wp2_with fail
    refine bodyPost_ret (results_cell_row rfl _ _ w.heap.size 34 #[.int .i64 f0,.int .i64 1048577] (0,0) _ rfl (eff_fill2 HBZ.out _ _) Tryz.underlying34 rfl (by kernel_rfl)) rfl ?_
    exact ⟨by rw [← E1.out,← E2.out];try rfl,(HB.out.setCell (p:=⟨w.heap.size,0,none⟩) (Nat.le_refl _) _).setCell (p:=⟨w.heap.size,1,none⟩) (Nat.le_refl _) _⟩
end Go.Proofs.YtdadnapfecmmdaaGreat.P
namespace Go.Proofs.YtdadnapfecmmdaaGreat.P
set_option linter.unusedVariables false
set_option linter.unusedSimpArgs false
open Go.RowKit Go.Proofs.YtdadnapfecmmdaaGreatW.PrintWords Go.Proofs.YtdadnapfecmmdaaGreatW.PrintLast Go.Proofs.YtdadnapfecmmdaaGreatW.PrintMore
def deployment_Active.l0:Nat→List (S98)→ByteArray→Int→List (S98)→Int→Int→Option (Int × Int × Int × ByteArray × ByteArray × ByteArray × Bool)
 | 0,_,_,_,_,_,_=>none
 | k + 1,x0,x1,x2,x10,x11,x12=>if x12 < x11 then (if 0 ≤ x12 then (if x12 < (x10.length:Int) then (if ((rd_T98 x10 x12).f1) = 1 then (if ((rd_T98 x10 x12).f3).toList = x1.toList then ((deployment_effect.f k x0 x12).bind fun bt161=>((deployment_has.f bt161.1 bt161.2 x2).bind fun t163=>(if t163 = true then (some ((rd_T98 x10 x12).f0,(rd_T98 x10 x12).f1,(rd_T98 x10 x12).f2,(rd_T98 x10 x12).f3,(rd_T98 x10 x12).f4,(rd_T98 x10 x12).f5,true)) else (deployment_Active.l0 k x0 x1 x2 x10 x11 (wrap64 (x12 + 1)))))) else (deployment_Active.l0 k x0 x1 x2 x10 x11 (wrap64 (x12 + 1)))) else (deployment_Active.l0 k x0 x1 x2 x10 x11 (wrap64 (x12 + 1)))) else (none)) else (none)) else (some (0,0,0,(⟨#[]⟩:ByteArray),(⟨#[]⟩:ByteArray),(⟨#[]⟩:ByteArray),false))
def deployment_Active.f (k:Nat) (l0:List (S98)) (a1:ByteArray) (a2:Int):Option (Int × Int × Int × ByteArray × ByteArray × ByteArray × Bool):=deployment_Active.l0 k l0 a1 a2 l0 (l0.length:Int) 0
theorem act_fill6 {W:World} {g:Nat} {ty:TypeId} {z0 z1 z2 z3 z4 z5:Value} (h:W.heap[g]? = some (.cells #[z0,z1,z2,z3,z4,z5] ty (0,0))) (v0 v1 v2 v3 v4 v5:Value):(((((((W.setCell ⟨g,0,none⟩ v0).setCell ⟨g,1,none⟩ v1).setCell ⟨g,2,none⟩ v2).setCell ⟨g,3,none⟩ v3).setCell ⟨g,4,none⟩ v4).setCell ⟨g,5,none⟩ v5)).heap[g]? = some (.cells #[v0,v1,v2,v3,v4,v5] ty (0,0)):=by
 have h0:=blk_set h 0 v0
 simp only [List.setIfInBounds_toArray,List.set_cons_zero,List.set_cons_succ] at h0
 have h1:=blk_set h0 1 v1
 simp only [List.setIfInBounds_toArray,List.set_cons_zero,List.set_cons_succ] at h1
 have h2:=blk_set h1 2 v2
 simp only [List.setIfInBounds_toArray,List.set_cons_zero,List.set_cons_succ] at h2
 have h3:=blk_set h2 3 v3
 simp only [List.setIfInBounds_toArray,List.set_cons_zero,List.set_cons_succ] at h3
 have h4:=blk_set h3 4 v4
 simp only [List.setIfInBounds_toArray,List.set_cons_zero,List.set_cons_succ] at h4
 have h5:=blk_set h4 5 v5
 simp only [List.setIfInBounds_toArray,List.set_cons_zero,List.set_cons_succ] at h5
 exact h5
theorem act_bel6 {W w:World} {b g:Nat} (h:Below b w W) (hg:b ≤ g) (v0 v1 v2 v3 v4 v5:Value):Below b w ((((((W.setCell ⟨g,0,none⟩ v0).setCell ⟨g,1,none⟩ v1).setCell ⟨g,2,none⟩ v2).setCell ⟨g,3,none⟩ v3).setCell ⟨g,4,none⟩ v4).setCell ⟨g,5,none⟩ v5):=(((((h.setCell hg _).setCell hg _).setCell hg _).setCell hg _).setCell hg _).setCell hg _
theorem act_step (k:Nat) (l:List S98) (nm:ByteArray) (slot:Int) (i:Nat) (r:Int × Int × Int × ByteArray × ByteArray × ByteArray × Bool) (hi:i < l.length) (hw:wrap64 ((i:Int) + 1) = (i:Int) + 1) (h:deployment_Active.l0 k l nm slot l (l.length:Int) (i:Int) = some r):
  ∃ k',(((rd_T98 l i).f1 == 1) = true∧((rd_T98 l i).f3.toList == nm.toList) = true∧∃ e b,deployment_effect.f k' l (i:Int) = some e∧deployment_has.f e.1 e.2 slot = some b∧(b = true∧((rd_T98 l i).f0,(rd_T98 l i).f1,(rd_T98 l i).f2,(rd_T98 l i).f3,(rd_T98 l i).f4,(rd_T98 l i).f5,true) = r ∨ b = false∧deployment_Active.l0 k' l nm slot l (l.length:Int) ((i:Int) + 1) = some r)) ∨
   (((rd_T98 l i).f1 == 1) = true∧((rd_T98 l i).f3.toList == nm.toList) = false∧deployment_Active.l0 k' l nm slot l (l.length:Int) ((i:Int) + 1) = some r) ∨
   (((rd_T98 l i).f1 == 1) = false∧deployment_Active.l0 k' l nm slot l (l.length:Int) ((i:Int) + 1) = some r):=by
 cases k with
 | zero=>cases h
 | succ k=>
  refine ⟨k,?_⟩
  simp only [deployment_Active.l0] at h
  rw [if_pos (by omega),if_pos (by omega),if_pos (by omega),hw] at h
  by_cases h1:(rd_T98 l i).f1 = 1
  ·rw [if_pos h1] at h
   by_cases h2:(rd_T98 l i).f3.toList = nm.toList
   ·rw [if_pos h2] at h
    obtain ⟨e,he,h⟩:=Option.bind_eq_some_iff.mp h
    obtain ⟨b,hb,h⟩:=Option.bind_eq_some_iff.mp h
    refine .inl ⟨by simpa using h1,by simpa using h2,e,b,he,hb,?_⟩
    cases b with
    | true=>rw [if_pos rfl] at h;exact .inl ⟨rfl,Option.some.inj h⟩
    | false=>rw [if_neg (by decide)] at h;exact .inr ⟨rfl,h⟩
   ·rw [if_neg h2] at h
    exact .inr (.inl ⟨by simpa using h1,by simpa using h2,h⟩)
  ·rw [if_neg h1] at h
   exact .inr (.inr ⟨by simpa using h1,h⟩)
theorem act_end (k:Nat) (l:List S98) (nm:ByteArray) (slot:Int) (r:Int × Int × Int × ByteArray × ByteArray × ByteArray × Bool) (h:deployment_Active.l0 k l nm slot l (l.length:Int) (l.length:Int) = some r):(0,0,0,(⟨#[]⟩:ByteArray),(⟨#[]⟩:ByteArray),(⟨#[]⟩:ByteArray),false) = r:=by
 cases k with
 | zero=>cases h
 | succ k=>
  simp only [deployment_Active.l0] at h
  rw [if_neg (by omega)] at h
  exact Option.some.inj h
set_option maxHeartbeats 4000000 in
set_option maxRecDepth 100000 in
theorem deployment_Active.calls (k:Nat) (A0:Option Addr) (c0:Nat) (l0:List (S98)) (a1:ByteArray) (a2:Int) (r1:Int) (r2:Int) (r3:Int) (r4:ByteArray) (r5:ByteArray) (r6:ByteArray) (r7:Bool) (w:World) (hr0:Kd.C k98 w A0 l0.length l0) (hc0:l0.length ≤ c0) (h:deployment_Active.f k l0 a1 a2 = some (r1,r2,r3,r4,r5,r6,r7)):
  Calls Tryz.prog 69 #[.slice A0 l0.length c0,.string a1,.int .i64 a2] w fun e w'=>e = .returned (.tuple #[.agg #[.int .i64 r1,.int .i64 r2,.int .i64 r3,.string r4,.string r5,.string r6],.bool r7])∧Below w.heap.size w w':=by
 have hlb:=hr0.2.1
 have HC:=Aside0.mk hr0
 have HCP:=Aside0.mk hc0
 have HF:Aside0 (deployment_Active.l0 k l0 a1 a2 l0 (l0.length:Int) ((0:Nat):Int) = some (r1,r2,r3,r4,r5,r6,r7)):=⟨h⟩
 clear h hr0 hc0
 go_enter Tryz.func69,Tryz.ntmps69
 have hn:=blk_new w (Obj.cells #[.int .i64 0,.int .i64 0,.int .i64 0,.string (⟨#[]⟩:ByteArray),.string (⟨#[]⟩:ByteArray),.string (⟨#[]⟩:ByteArray)] 98)
 have hb:=below_alloc (Below.refl w.heap.size w) (Obj.cells #[.int .i64 0,.int .i64 0,.int .i64 0,.string (⟨#[]⟩:ByteArray),.string (⟨#[]⟩:ByteArray),.string (⟨#[]⟩:ByteArray)] 98)
 go_upto_region 1 with fail
 generalize w.alloc (Obj.cells #[.int .i64 0,.int .i64 0,.int .i64 0,.string (⟨#[]⟩:ByteArray),.string (⟨#[]⟩:ByteArray),.string (⟨#[]⟩:ByteArray)] 98) = wa at hn hb ⊢
 have HBZ:=Aside0.mk hn
 have HB:=Aside0.mk hb
 clear hn hb
 go_wp2_with fail
 go_loopg [12] l0.length (fun gg s12 wr=>∃ (i kq:Nat),s12 = .int .i64 (i:Int)∧i ≤ l0.length∧l0.length - i ≤ gg∧Aside0 (deployment_Active.l0 kq l0 a1 a2 l0 (l0.length:Int) (i:Int) = some (r1,r2,r3,r4,r5,r6,r7))∧Aside0 (wr.heap[w.heap.size]? = some (Obj.cells #[.int .i64 0,.int .i64 0,.int .i64 0,.string (⟨#[]⟩:ByteArray),.string (⟨#[]⟩:ByteArray),.string (⟨#[]⟩:ByteArray)] 98 (0,0)))∧Aside0 (Below w.heap.size w wr))
 case atStart=>exact ⟨0,k,by rfl,by omega,by omega,HF,HBZ,HB⟩
 case round=>
  clear HF HBZ HB
  obtain ⟨i,kq,rfl,hi,hgi,HF,HBZ,HB⟩:=hrel
  by_cases hlt:i < l0.length
  ·have hz1:(i:Int) < (l0.length:Int):=by omega
   have si1:IntKind.i64.wrap ((i:Int) + 1) = (i:Int) + 1:=IntWalk.i64_in _ (by omega)
   obtain ⟨k',hst⟩:=act_step kq l0 a1 a2 i _ hlt (by unfold wrap64;omega) HF.out
   have HST:=Aside0.mk hst
   clear hst HF
   obtain ⟨ay,e,s0,s1,s2,s3,s4,s5⟩:=at_T98 (Kd.C_below HC.out HB.out) (i:Int) (by omega) (by omega)
   subst e
   simp only [Int.toNat_natCast] at s0 s1 s2 s3 s4 s5
   generalize rd_T98 l0 (i:Int) = u at HST s0 s1 s2 s3 s4 s5
   obtain ⟨u0,u1,u2,u3,u4,u5⟩:=u
   dsimp only at HST s0 s1 s2 s3 s4 s5
   go_upto_region 4 with fail
   have hbs:=below_alloc (Below.refl wr.heap.size wr) (Obj.cells #[.int .i64 u0,.int .i64 u1,.int .i64 u2,.string u3,.string u4,.string u5] 98)
   have hg:=blk_new wr (Obj.cells #[.int .i64 u0,.int .i64 u1,.int .i64 u2,.string u3,.string u4,.string u5] 98)
   generalize wr.alloc (Obj.cells #[.int .i64 u0,.int .i64 u1,.int .i64 u2,.string u3,.string u4,.string u5] 98) = wx at hbs hg ⊢
   replace HBZ:=Aside0.mk (blk_below HBZ.out hbs)
   replace HB:=Aside0.mk (below_step HB.out hbs)
   clear hbs s0 s1 s2 s3 s4 s5
   generalize wr.heap.size = gx at hg ⊢
   have s1:wx.cell? ⟨gx,1,none⟩ = some (.int .i64 u1):=(blk_cell hg 1).trans rfl
   have s3:wx.cell? ⟨gx,3,none⟩ = some (.string u3):=(blk_cell hg 3).trans rfl
   have HG:=Aside0.mk hg
   clear hg
   rcases HST.out with ⟨g1,g2,e,b,he,hhb,hr⟩ | ⟨g1,g2,hr⟩ | ⟨g1,hr⟩
   ·obtain ⟨e1,e2⟩:=e
    have HR:=Aside0.mk hr
    have HH:=Aside0.mk hhb
    have HE:=Aside0.mk he
    clear hr hhb he HST
    go_upto_if 32 with (first | (go_at_call 97;with_reducible refine (deployment_effect.calls k' (some ay) c0 l0 (i:Int) e1 e2 _ (Kd.C_below HC.out HB.out) HCP.out HE.out).mono ?_;rintro e wy ⟨rfl,hb⟩;replace HBZ:=Aside0.mk (blk_below HBZ.out hb);replace HG:=Aside0.mk (blk_below HG.out hb);replace HB:=Aside0.mk (below_step HB.out hb);clear hb s1 s3) | (go_at_call 96;with_reducible refine (deployment_has.calls e1 e2 a2 b _ HH.out).mono ?_;rintro e wz ⟨rfl,hb⟩;replace HBZ:=Aside0.mk (blk_below HBZ.out hb);replace HG:=Aside0.mk (blk_below HG.out hb);replace HB:=Aside0.mk (below_step HB.out hb);clear hb))
    cases b with
    | true=>
     have HQ:Aside0 ((u0,u1,u2,u3,u4,u5,true) = (r1,r2,r3,r4,r5,r6,r7)):=⟨by
      rcases HR.out with ⟨_,h⟩ | ⟨h,_⟩
      ·exact h
      ·cases h⟩
     have y0:wz.cell? ⟨gx,0,none⟩ = some (.int .i64 u0):=(blk_cell HG.out 0).trans rfl
     have y1:wz.cell? ⟨gx,1,none⟩ = some (.int .i64 u1):=(blk_cell HG.out 1).trans rfl
     have y2:wz.cell? ⟨gx,2,none⟩ = some (.int .i64 u2):=(blk_cell HG.out 2).trans rfl
     have y3:wz.cell? ⟨gx,3,none⟩ = some (.string u3):=(blk_cell HG.out 3).trans rfl
     have y4:wz.cell? ⟨gx,4,none⟩ = some (.string u4):=(blk_cell HG.out 4).trans rfl
     have y5:wz.cell? ⟨gx,5,none⟩ = some (.string u5):=(blk_cell HG.out 5).trans rfl
     have z0:wz.cell? ⟨w.heap.size,0,none⟩ = some (.int .i64 0):=(blk_cell HBZ.out 0).trans rfl
     have z1:wz.cell? ⟨w.heap.size,1,none⟩ = some (.int .i64 0):=(blk_cell HBZ.out 1).trans rfl
     have z2:wz.cell? ⟨w.heap.size,2,none⟩ = some (.int .i64 0):=(blk_cell HBZ.out 2).trans rfl
     have z3:wz.cell? ⟨w.heap.size,3,none⟩ = some (.string (⟨#[]⟩:ByteArray)):=(blk_cell HBZ.out 3).trans rfl
     have z4:wz.cell? ⟨w.heap.size,4,none⟩ = some (.string (⟨#[]⟩:ByteArray)):=(blk_cell HBZ.out 4).trans rfl
     have z5:wz.cell? ⟨w.heap.size,5,none⟩ = some (.string (⟨#[]⟩:ByteArray)):=(blk_cell HBZ.out 5).trans rfl
     have f0:=blk_frozen HBZ.out 0
     have f1:=blk_frozen HBZ.out 1
     have f2:=blk_frozen HBZ.out 2
     have f3:=blk_frozen HBZ.out 3
     have f4:=blk_frozen HBZ.out 4
     have f5:=blk_frozen HBZ.out 5
     go_wp2_with fail
     refine bodyPost_ret (results_ct rfl _ _ w.heap.size 98 #[.int .i64 u0,.int .i64 u1,.int .i64 u2,.string u3,.string u4,.string u5] (0,0) _ rfl (act_fill6 HBZ.out _ _ _ _ _ _) Tryz.underlying98 rfl (by kernel_rfl)) rfl ?_
     have hq:=HQ.out
     simp only [Prod.mk.injEq] at hq
     obtain ⟨rfl,rfl,rfl,rfl,rfl,rfl,rfl⟩:=hq
     exact ⟨by rfl,act_bel6 HB.out (Nat.le_refl _) _ _ _ _ _ _⟩
    | false=>
     have HN:Aside0 (deployment_Active.l0 k' l0 a1 a2 l0 (l0.length:Int) ((i:Int) + 1) = some (r1,r2,r3,r4,r5,r6,r7)):=⟨by
      rcases HR.out with ⟨h,_⟩ | ⟨_,h⟩
      ·cases h
      ·exact h⟩
     go_wp2_with fail
     go_roundg (l0.length - (i + 1))
     case measure=>omega
     case rel=>exact ⟨i + 1,k',by first | rfl | go_num,by omega,Nat.le_refl _,HN,HBZ,HB⟩
   ·have HN:=Aside0.mk hr
    clear hr HST
    go_wp2_with fail
    go_roundg (l0.length - (i + 1))
    case measure=>omega
    case rel=>exact ⟨i + 1,k',by first | rfl | go_num,by omega,Nat.le_refl _,HN,HBZ,HB⟩
   ·have HN:=Aside0.mk hr
    clear hr HST
    go_wp2_with fail
    go_roundg (l0.length - (i + 1))
    case measure=>omega
    case rel=>exact ⟨i + 1,k',by first | rfl | go_num,by omega,Nat.le_refl _,HN,HBZ,HB⟩
  ·obtain rfl:i = l0.length:=by omega
   have hz1:decide ((l0.length:Int) < (l0.length:Int)) = false:=by simp
   have hz0:decide (l0.length < l0.length) = false:=by simp
   have HQ:=Aside0.mk (act_end kq l0 a1 a2 _ HF.out)
   clear HF
   have z0:wr.cell? ⟨w.heap.size,0,none⟩ = some (.int .i64 0):=(blk_cell HBZ.out 0).trans rfl
   have z1:wr.cell? ⟨w.heap.size,1,none⟩ = some (.int .i64 0):=(blk_cell HBZ.out 1).trans rfl
   have z2:wr.cell? ⟨w.heap.size,2,none⟩ = some (.int .i64 0):=(blk_cell HBZ.out 2).trans rfl
   have z3:wr.cell? ⟨w.heap.size,3,none⟩ = some (.string (⟨#[]⟩:ByteArray)):=(blk_cell HBZ.out 3).trans rfl
   have z4:wr.cell? ⟨w.heap.size,4,none⟩ = some (.string (⟨#[]⟩:ByteArray)):=(blk_cell HBZ.out 4).trans rfl
   have z5:wr.cell? ⟨w.heap.size,5,none⟩ = some (.string (⟨#[]⟩:ByteArray)):=(blk_cell HBZ.out 5).trans rfl
   have f0:=blk_frozen HBZ.out 0
   have f1:=blk_frozen HBZ.out 1
   have f2:=blk_frozen HBZ.out 2
   have f3:=blk_frozen HBZ.out 3
   have f4:=blk_frozen HBZ.out 4
   have f5:=blk_frozen HBZ.out 5
   go_wp2_with fail
   refine bodyPost_ret (results_ct rfl _ _ w.heap.size 98 #[.int .i64 0,.int .i64 0,.int .i64 0,.string (⟨#[]⟩:ByteArray),.string (⟨#[]⟩:ByteArray),.string (⟨#[]⟩:ByteArray)] (0,0) _ rfl (act_fill6 HBZ.out _ _ _ _ _ _) Tryz.underlying98 rfl (by kernel_rfl)) rfl ?_
   have hq:=HQ.out
   simp only [Prod.mk.injEq] at hq
   obtain ⟨rfl,rfl,rfl,rfl,rfl,rfl,rfl⟩:=hq
   exact ⟨by rfl,act_bel6 HB.out (Nat.le_refl _) _ _ _ _ _ _⟩
end Go.Proofs.YtdadnapfecmmdaaGreat.P
namespace Go.Proofs.YtdadnapfecmmdaaGreat.P
set_option linter.unusedVariables false
set_option linter.unusedSimpArgs false
open Go.RowKit Go.Proofs.YtdadnapfecmmdaaGreatW.PrintWords Go.Proofs.YtdadnapfecmmdaaGreatW.PrintLast Go.Proofs.YtdadnapfecmmdaaGreatW.PrintMore
open Go.Proofs.YtdadnapfecmmdaaGreat.Hm
theorem word_some (a b:Int):∃ t,checksum_Word.f a b = some t∧0 ≤ t∧t ≤ 18446744073709551615:=by
 unfold checksum_Word.f
 exact ⟨_,rfl,bounds_u64 (wf_bits _ _ _ _)⟩
theorem mix_ex (a b:Int):∃ r,checksum_Mix.f a b = some r∧0 ≤ r∧r < 4611686018427387904:=by
 obtain ⟨t,ht,h0,h1⟩:=word_some (IntKind.u64.wrap a) (IntKind.u64.wrap b)
 refine ⟨wrap64 (t / 4),?_,?_⟩
 ·unfold checksum_Mix.f
  rw [ht]
  rfl
 ·have:wrap64 (t / 4) = t / 4:=by unfold wrap64;omega
  rw [this]
  omega
def mixV (a b:Int):Int:=(checksum_Mix.f a b).getD 0
theorem mix_some (a b:Int):checksum_Mix.f a b = some (mixV a b):=by
 obtain ⟨r,h,_⟩:=mix_ex a b
 unfold mixV
 rw [h]
 rfl
theorem mix_range (a b:Int):0 ≤ mixV a b∧mixV a b < 4611686018427387904:=by
 obtain ⟨r,h,h0⟩:=mix_ex a b
 unfold mixV
 rw [h]
 exact h0
def rollV (seed a b d:Int):Int:=mixV (mixV (mixV seed a) b) d
theorem roll_range (s a b d:Int):0 ≤ rollV s a b d∧rollV s a b d < 4611686018427387904:=mix_range _ _
theorem roll_some (c:Cfg) (a b d:Int):simulate_Roll.f c.seed c.sv c.off c.ch c.fl c.sfrom c.sto c.per c.delay c.chunk c.loss c.rep a b d = some (rollV c.seed a b d):=by
 unfold simulate_Roll.f
 simp only [mix_some,Option.bind_some]
 unfold rollV
 with_reducible rfl
theorem roll_calls (c:Cfg) (p:CfgAt) (a b d:Int) (w:World) (hR:CfgR w p c):Calls Tryz.prog 18 #[c.val p,.int .i64 a,.int .i64 b,.int .i64 d] w fun e w'=>e = .returned (.int .i64 (rollV c.seed a b d))∧Below w.heap.size w w':=
 simulate_Roll.calls _ _ _ _ _ _ _ _ _ _ _ _ _ _ _ _ _ _ _ _ _ _ _ _ w hR.r1 hR.l1 hR.r2 hR.l2 hR.r3 hR.l3 hR.r4 hR.l4 (roll_some c a b d)
structure SvV where
 x:S51
 A:Option Addr
 c:Nat
def svVal (s:SvV):Value:=.agg (svCells s.x s.A s.c)
def faultsV (name ver:ByteArray) (slot:Int):List S61→Int→Int→Int × Int
 | [],w,f=>(w,f)
 | x::r,w,f=>if x.f0.toList = name.toList∧x.f2.f0 ≤ slot∧slot < x.f2.f1∧(x.f1.toList = [] ∨ x.f1.toList = ver.toList) then faultsV name ver slot r (wrap64 (w + x.f3)) (wrap64 (f + x.f4)) else faultsV name ver slot r w f
def strServe:ByteArray:=⟨#[115,101,114,118,101]⟩
def strCall:ByteArray:=⟨#[99,97,108,108]⟩
def BIG:Int:=1152921504606846976
def setEnd (l:List Sp) (j:Nat) (en:Int) (err:Bool):List Sp:=l.modify j fun s=>{ s with en:=en,err:=err }
def callsV (seed delay t i:Int) (x:S51) (ver:ByteArray) (rec:ByteArray→Int→Int→List Sp→Option (Int × Bool × List Sp)):List ByteArray→Int→Bool→List Sp→Option (Int × Bool × List Sp)
 | [],y,fl,l=>some (y,fl,l)
 | nm::r,y,fl,l=>
  if l.length < 1000∧0 ≤ y∧y ≤ BIG then
   (rec nm ((l.length:Int) + 1) (y + delay + rollV seed t ((l.length:Int) + 1) 2 % (delay + 1)) (l ++ [⟨t,(l.length:Int) + 1,i,0,x.f1,2,x.f0,ver,strCall,y,0,false⟩])).bind fun q=>
    if 0 ≤ q.1∧q.1 ≤ BIG∧l.length < q.2.2.length then
     callsV seed delay t i x ver rec r (q.1 + delay + rollV seed t ((l.length:Int) + 1) 3 % (delay + 1)) (fl || q.2.1)
      (setEnd q.2.2 l.length (q.1 + delay + rollV seed t ((l.length:Int) + 1) 3 % (delay + 1)) q.2.1)
    else none
  else none
def serveV (c:Cfg) (slot t:Int) (sm:List (ByteArray × SvV)):Nat→ByteArray→Int→Int→List Sp→Option (Int × Bool × List Sp)
 | 0,_,_,_,_=>none
 | n + 1,name,parent,x,l=>
  (mget sm name).bind fun sv=>
   (deployment_Active.f n c.ch name slot).bind fun act=>
    if l.length < 1000∧0 ≤ x∧x ≤ BIG∧0 ≤ sv.x.f3∧sv.x.f3 ≤ 1048576∧0 ≤ sv.x.f2∧sv.x.f2 ≤ 1048576 then
     let ver:=act.2.2.2.2.2.1
     let wf:=faultsV name ver slot c.fl (sv.x.f2 + rollV c.seed t ((l.length:Int) + 1) 1 % (sv.x.f3 + 1)) sv.x.f4
     if 0 ≤ wf.1∧wf.1 ≤ 1099511627776 then
      (callsV c.seed c.delay t ((l.length:Int) + 1) sv.x ver (serveV c slot t sm n) sv.x.f5 (x + wf.1 / 2) (decide (rollV c.seed t ((l.length:Int) + 1) 4 % 1000000 < wf.2))
       (l ++ [⟨t,(l.length:Int) + 1,parent,0,sv.x.f1,3,sv.x.f0,ver,strServe,x,0,false⟩])).bind fun q=>
       if 0 ≤ q.1∧q.1 ≤ BIG∧l.length < q.2.2.length then
        some (q.1 + wf.1 - wf.1 / 2,q.2.1,setEnd q.2.2 l.length (q.1 + wf.1 - wf.1 / 2) q.2.1)
       else none
     else none
    else none
abbrev pv (b:Nat):Value:=.pointer (some ⟨b,0,none⟩)
structure EnvR (W:World) (bs bm bc bl bb bt bv g base:Nat) (c:Cfg) (p:CfgAt) (slot t:Int) (sm:List (ByteArray × SvV)):Prop where
 s:W.heap[bs]? = some (.cells #[.map (some bm)] 150 (0,0))
 m:MapIs W bm Value.string svVal sm
 c:W.heap[bc]? = some (.cells (c.cells p) 36 (0,0))
 l:W.heap[bl]? = some (.cells #[.int .i64 slot] 3 (0,0))
 b:W.heap[bb]? = some (.cells #[.func (.func 80) #[] #[pv g,pv bt]] 151 (0,0))
 t:W.heap[bt]? = some (.cells #[.int .i64 t] 3 (0,0))
 v:W.heap[bv]? = some (.cells #[.func (.func 81) #[] #[pv bs,pv bc,pv bl,pv bb,pv bt,pv bv,pv g]] 152 (0,0))
 ns:bs ≠ g
 nm:bm ≠ g
 nc:bc ≠ g
 nl:bl ≠ g
 nb:bb ≠ g
 nt:bt ≠ g
 nv:bv ≠ g
 hg:base ≤ g
 hW:base ≤ W.heap.size
section
variable {W W':World} {bs bm bc bl bb bt bv g base:Nat} {c:Cfg} {p:CfgAt} {slot t:Int} {sm:List (ByteArray × SvV)}
theorem EnvR.keep (h:EnvR W bs bm bc bl bb bt bv g base c p slot t sm) (k:KeepT W W' g):EnvR W' bs bm bc bl bb bt bv g base c p slot t sm where
 s:=k.cellsBlk h.s h.ns (by decide)
 m:=by
  obtain ⟨es,cl,hb,he⟩:=h.m
  exact ⟨es,cl,k.blk hb h.nm (fun _ _ e=>by cases e),he⟩
 c:=k.cellsBlk h.c h.nc (by decide)
 l:=k.cellsBlk h.l h.nl (by decide)
 b:=k.cellsBlk h.b h.nb (by decide)
 t:=k.cellsBlk h.t h.nt (by decide)
 v:=k.cellsBlk h.v h.nv (by decide)
 ns:=h.ns
 nm:=h.nm
 nc:=h.nc
 nl:=h.nl
 nb:=h.nb
 nt:=h.nt
 nv:=h.nv
 hg:=h.hg
 hW:=Nat.le_trans h.hW k.1
theorem SpR.below {l:List Sp} (h:SpR W g base l) (hb:Below W.heap.size W W'):SpR W' g base l:=by
 obtain ⟨v,hv,ho⟩:=h
 exact ⟨v,(hb.block g (blk_lt hv)).trans hv,pw_own_below ho hb⟩
theorem SpR.lt {l:List Sp} (h:SpR W g base l):g < W.heap.size:=by
 obtain ⟨v,hv,_⟩:=h
 exact blk_lt hv
theorem setEnd_len (l:List Sp) (j:Nat) (en:Int) (err:Bool):(setEnd l j en err).length = l.length:=by simp [setEnd]
theorem setEnd_eq (l:List Sp) (j:Nat) (en:Int) (err:Bool) (hj:j < l.length):setEnd l j en err = l.set j { l[j] with en:=en,err:=err }:=by
 unfold setEnd
 apply List.ext_getElem?
 intro i
 rw [List.getElem?_modify,List.getElem?_set]
 by_cases h:j = i
 ·subst h
  simp [hj]
 ·simp [h]
theorem SpR.stores {l:List Sp} {v:Value} {A:Addr} {cp:Nat} (hv:W.heap[g]? = some (.cells #[.slice (some A) l.length cp] 68 (0,0))) (ho:W.ownsRow base 74 14 (.slice (some A) l.length cp) l.length (spc l)) (j:Nat) (hj:j < l.length) (en:Int) (err:Bool):
  SpR ((W.setCell ⟨A.block,A.off + (j * 14 + 10),none⟩ (.int .i64 en)).setCell ⟨A.block,A.off + (j * 14 + 11),none⟩ (.bool err)) g base (setEnd l j en err):=by
 rcases ho.2 with ⟨h,_⟩ | ⟨r,cap,cur,h,hb,hr,h1,h2,h3,h4⟩
 ·cases h
 ·injection h with ha _ hc
  injection ha with ha
  subst ha
  subst hc
  simp only [Nat.zero_add]
  have hne:g ≠ r:=fun e=>by
   subst e
   rw [hv] at hr
   injection hr with hr
   injection hr with _ ht
   exact absurd ht (by decide)
  obtain ⟨o1,g1⟩:=ho.stored (j * 14 + 10) (.int .i64 en)
  obtain ⟨o2,g2⟩:=o1.stored (j * 14 + 11) (.bool err)
  rw [spc_set l j 10 (.int .i64 en) { l[j] with en:=en } hj (by omega) rfl] at o1 o2
  rw [spc_set (l.set j { l[j] with en:=en }) j 11 (.bool err) { l[j] with en:=en,err:=err } (by simpa using hj) (by omega) (by simp [Sp.cells])] at o2
  refine ⟨.slice (some ⟨r,0,none⟩) l.length cp,?_,?_⟩
  ·rw [Below.heap_setCell _ _ _ _ hne,Below.heap_setCell _ _ _ _ hne]
   exact hv
  ·rw [setEnd_len,setEnd_eq l j en err hj]
   simpa using o2
end
end Go.Proofs.YtdadnapfecmmdaaGreat.P
