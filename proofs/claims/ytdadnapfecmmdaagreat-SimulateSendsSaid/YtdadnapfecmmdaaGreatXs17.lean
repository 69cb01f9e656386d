/- Own texts of a proof about layer 55's simulate (merged): Mf. -/
import Derived.Test.YtdadnapfecmmdaaGreatXs11
import Derived.Test.YtdadnapfecmmdaaGreatXs16
import Derived.Test.YtdadnapfecmmdaaGreatXs2
namespace Go.Proofs.YtdadnapfecmmdaaGreat.P
set_option linter.unusedVariables false
set_option linter.unusedSimpArgs false
open Go.RowKit Go.Proofs.YtdadnapfecmmdaaGreatW.PrintWords Go.Proofs.YtdadnapfecmmdaaGreatW.PrintLast Go.Proofs.YtdadnapfecmmdaaGreatW.PrintMore
open Go.Proofs.YtdadnapfecmmdaaGreat.Hm
theorem moffset_calls (c:Cfg) (p:CfgAt) (clock:Int) (w:World) (hR:CfgR w p c):Calls Tryz.prog 40 #[c.val p,.int .i64 clock] w fun e w'=>e = .returned (.tuple #[.int .i64 (offOf c.off clock).1,.bool (offOf c.off clock).2])∧Below w.heap.size w w':=by
 obtain ⟨A1,c1,A2,c2,A3,c3,A4,c4⟩:=p
 have HR:=Aside0.mk hR.r2
 have hn:c.off.length ≤ 9223372036854775807:=hR.r2.2.1
 have HX0:=Aside0.mk (blk_new w (.cells (c.cells ⟨A1,c1,A2,c2,A3,c3,A4,c4⟩) 36))
 have HB0:=Aside0.mk (below_alloc (Below.refl w.heap.size w) (.cells (c.cells ⟨A1,c1,A2,c2,A3,c3,A4,c4⟩) 36))
 clear hR
 go_enter Tryz.func40,Tryz.ntmps40
 go_wp2_with fail
 go_loopg [6] c.off.length (fun gg s6 wr=>∃ i:Nat,i ≤ c.off.length∧c.off.length - i ≤ gg∧s6 = .int .i64 (i:Int)∧Aside0 (wr.heap[w.heap.size]? = some (.cells (c.cells ⟨A1,c1,A2,c2,A3,c3,A4,c4⟩) 36 (0,0)))∧Aside0 (Below w.heap.size w wr)∧Aside0 (∀ j (_:j < i) (hj:j < c.off.length),(c.off[j].f0 == clock) = false))
 case atStart=>exact ⟨0,Nat.zero_le _,by omega,rfl,HX0,HB0,⟨fun j hj=>absurd hj (Nat.not_lt_zero _)⟩⟩
 case round=>
 clear HX0 HB0
 obtain ⟨i,hi,hgi,rfl,HX,HB,AN⟩:=hrel
 have q1:wr.cell? ⟨w.heap.size,2,none⟩ = some (.slice A2 c.off.length c2):=(blk_cell HX.out 2).trans rfl
 by_cases hlt:i < c.off.length
 ·obtain ⟨ad,e,h0,h1⟩:=at_T54 HR.out (i:Int) (by omega) (by omega)
  subst e
  have hrd:rd_T54 c.off (i:Int) = c.off[i]:=by unfold rd_T54;simp [List.getD_eq_getElem?_getD,hlt]
  rw [hrd] at h0 h1
  simp only [Int.toNat_natCast] at h0 h1
  replace h0:=below_at HB.out h0
  replace h1:=below_at HB.out h1
  have hltz:(i:Int) < (c.off.length:Int):=by omega
  by_cases hq:c.off[i].f0 = clock
  ·have hq2:(c.off[i].f0 == clock) = true:=by simp [hq]
   have hq3:=eq_true hq
   have e:offIdx c.off clock = (i:Int):=idxBy_hit (fun x:S54=>x.f0 == clock) c.off i hlt hq2 (fun j hj=>AN.out j hj (by omega))
   have ho:offOf c.off clock = (c.off[i].f1,true):=by
    unfold offOf
    rw [e,if_neg (by omega),hrd]
   generalize c.off[i] = y at h0 h1 hq hq2 hq3 ho
   have HOF:=Aside0.mk ho
   clear ho e hrd hq
   go_wp2_with fail
   go_returns
   exact ⟨by rw [HOF.out];rfl,HB.out⟩
  ·have hq2:(c.off[i].f0 == clock) = false:=by simpa using hq
   have AN':Aside0 (∀ j (_:j < i + 1) (hj:j < c.off.length),(c.off[j].f0 == clock) = false):=⟨fun j hj hjl=>by
    by_cases hjk:j < i
    ·exact AN.out j hjk hjl
    ·obtain rfl:j = i:=by omega
     exact hq2⟩
   have hq3:=eq_false hq
   generalize c.off[i] = y at h0 h1 hq hq2 hq3
   clear hrd hq
   go_wp2_with fail
   go_roundg (c.off.length - (i + 1))
   case rel=>exact ⟨i + 1,by omega,Nat.le_refl _,by first | rfl | go_num,HX,HB,AN'⟩
   case measure=>omega
 ·obtain rfl:i = c.off.length:=by omega
  have e:offIdx c.off clock = -1:=idxBy_none (fun x:S54=>x.f0 == clock) c.off (fun j hj=>AN.out j hj hj)
  have ho:offOf c.off clock = (0,false):=by
   unfold offOf
   rw [e,if_pos (by omega)]
  have HOF:=Aside0.mk ho
  clear ho e
  go_wp2_with fail
  go_returns
  exact ⟨by rw [HOF.out];rfl,HB.out⟩
def trT.T10:Bool × List (List Nat × List Nat):=(true,[([],[]),([],[]),([1],[1]),([2],[2]),([3],[3]),([],[]),([5],[5]),([6],[6]),([7],[7]),([4,8],[4,8]),([9],[9]),([0,10],[0,10]),([11,11,0,1,2,3,4,5,6,7,8,9,10,11],[0,11])])
def trT.B10:List Nat:=[0,0,2,6,14,0,32,96,224,510,1022,2047,4095]
theorem trT.tab10:rtab .any (opsOf Tryz.f26 10) = trT.T10:=by kernel_rfl
theorem trT.bits10:waitsOk trT.T10.2 trT.B10 = true:=by kernel_rfl
set_option maxHeartbeats 8000000 in
set_option maxRecDepth 100000 in
theorem mtruth_calls (c:Cfg) (p:CfgAt) (w:World) (hR:CfgR w p c) (hSys:Sys c) (h0:0 ≤ c.sfrom) (h1:c.sto ≤ 100) (hp:c.per ≤ 10):
  Calls Tryz.prog 26 #[c.val p] w fun e w'=>∃ v,e = .returned v∧TsOut w.heap.size w' (tracesI c id) v∧Below w.heap.size w w':=by
 obtain ⟨A1,c1,A2,c2,A3,c3,A4,c4⟩:=p
 have HR:=Aside0.mk hR
 have HSY:=Aside0.mk hSys
 have HX0:=Aside0.mk (blk_new w (.cells (c.cells ⟨A1,c1,A2,c2,A3,c3,A4,c4⟩) 36))
 have HB0:=Aside0.mk (below_alloc (Below.refl w.heap.size w) (.cells (c.cells ⟨A1,c1,A2,c2,A3,c3,A4,c4⟩) 36))
 clear hR hSys
 obtain ⟨N,hN⟩:∃ N,N = (c.sto - c.sfrom).toNat:=⟨_,rfl⟩
 obtain ⟨M,hM⟩:∃ M,M = c.per.toNat:=⟨_,rfl⟩
 go_enter Tryz.func26,Tryz.ntmps26
 go_wp2_with fail
 go_loopg [3,4] N (fun gg s3 s4 wr=>∃ (i:Nat) (xs:List (Tr × Value)) (cp:Nat) (A:Option Addr),s3 = .slice A xs.length cp∧s4 = .int .i64 (c.sfrom + i)∧i ≤ N∧N - i ≤ gg∧Aside0 (xs.map (·.1) = (List.range i).flatMap fun (i:Nat)=>slotTr c id (c.sfrom + i))∧Aside0 (xs.length = i * M)∧Aside0 (wr.ownsRow w.heap.size 70 3 (.slice A xs.length cp) xs.length (trc xs))∧Aside0 (TsR wr w.heap.size xs)∧Aside0 (Below w.heap.size w wr)∧Aside0 (wr.heap[w.heap.size]? = some (.cells (c.cells ⟨A1,c1,A2,c2,A3,c3,A4,c4⟩) 36 (0,0))))
 case atStart=>exact ⟨0,[],0,none,by rfl,by first | rfl | go_num,by omega,by omega,⟨rfl⟩,⟨by simp⟩,⟨rfl,.inl ⟨rfl,rfl⟩⟩,⟨fun _ h=>by cases h⟩,HB0,HX0⟩
 case round=>
  clear HB0 HX0
  obtain ⟨i,xs,cp,A,rfl,rfl,hi,hgi,HM,HL,HO,HT,HB,HX⟩:=hrel
  have q6:wr.cell? ⟨w.heap.size,6,none⟩ = some (.int .i64 c.sto):=(blk_cell HX.out 6).trans rfl
  by_cases hlt:i < N
  ·have g0:decide (c.sfrom + (i:Int) < c.sto) = true:=by simp;omega
   have g1:c.sfrom + (i:Int) < c.sto:=by omega
   have s1:IntKind.i64.wrap (c.sfrom + (i:Int) + 1) = c.sfrom + (i:Int) + 1:=IntWalk.i64_in _ (by omega)
   have hbs:=Aside0.mk (Below.refl w.heap.size w)
   go_wp2_with fail
   clear q6 g0 hbs
   go_loopg [3,5] M (fun gg s3 s5 wr=>∃ (k:Nat) (xs:List (Tr × Value)) (cp:Nat) (A:Option Addr),s3 = .slice A xs.length cp∧s5 = .int .i64 (k:Int)∧k ≤ M∧M - k ≤ gg∧Aside0 (xs.map (·.1) = ((List.range i).flatMap fun (i:Nat)=>slotTr c id (c.sfrom + i)) ++ (List.range k).map fun (k:Nat)=>(⟨traceId (c.sfrom + i) k,(traceI c (c.sfrom + i) k).map id⟩:Tr))∧Aside0 (xs.length = i * M + k)∧Aside0 (wr.ownsRow w.heap.size 70 3 (.slice A xs.length cp) xs.length (trc xs))∧Aside0 (TsR wr w.heap.size xs)∧Aside0 (Below w.heap.size w wr)∧Aside0 (wr.heap[w.heap.size]? = some (.cells (c.cells ⟨A1,c1,A2,c2,A3,c3,A4,c4⟩) 36 (0,0))))
   case atStart=>exact ⟨0,xs,cp,A,by rfl,by rfl,by omega,by omega,⟨by rw [HM.out];simp⟩,⟨by rw [HL.out];rfl⟩,HO,HT,HB,HX⟩
   case round=>
    clear HM HL HO HT HB HX
    obtain ⟨k,xs,cp,A,rfl,rfl,hk,hgk,HM,HL,HO,HT,HB,HX⟩:=hrel
    have q7:wr.cell? ⟨w.heap.size,7,none⟩ = some (.int .i64 c.per):=(blk_cell HX.out 7).trans rfl
    by_cases hkt:k < M
    ·have g2:decide ((k:Int) < c.per) = true:=by simp;omega
     have g3:(k:Int) < c.per:=by omega
     have s2:IntKind.i64.wrap ((k:Int) + 1) = (k:Int) + 1:=IntWalk.i64_in _ (by omega)
     have s3:IntKind.i64.wrap ((c.sfrom + (i:Int)) * 1048576) = (c.sfrom + (i:Int)) * 1048576:=IntWalk.i64_in _ (by omega)
     have s4:IntKind.i64.wrap ((c.sfrom + (i:Int)) * 1048576 + 1) = (c.sfrom + (i:Int)) * 1048576 + 1:=IntWalk.i64_in _ (by omega)
     have s5:IntKind.i64.wrap ((c.sfrom + (i:Int)) * 1048576 + 1 + (k:Int)) = traceId (c.sfrom + i) k:=IntWalk.i64_in _ (by omega)
     have s6:IntKind.i64.wrap (1000 * (c.sfrom + (i:Int))) = 1000 * (c.sfrom + (i:Int)):=IntWalk.i64_in _ (by omega)
     have s7:IntKind.i64.wrap (7 * (k:Int)) = 7 * (k:Int):=IntWalk.i64_in _ (by omega)
     have s8:IntKind.i64.wrap (1000 * (c.sfrom + (i:Int)) + 7 * (k:Int)) = 1000 * (c.sfrom + (i:Int)) + 7 * (k:Int):=IntWalk.i64_in _ (by omega)
     have m0:wr.cell? ⟨w.heap.size,0,none⟩ = some (.int .i64 c.seed):=(blk_cell HX.out 0).trans rfl
     have m1:wr.cell? ⟨w.heap.size,1,none⟩ = some (.slice A1 c.sv.length c1):=(blk_cell HX.out 1).trans rfl
     have m2:wr.cell? ⟨w.heap.size,2,none⟩ = some (.slice A2 c.off.length c2):=(blk_cell HX.out 2).trans rfl
     have m3:wr.cell? ⟨w.heap.size,3,none⟩ = some (.slice A3 c.ch.length c3):=(blk_cell HX.out 3).trans rfl
     have m4:wr.cell? ⟨w.heap.size,4,none⟩ = some (.slice A4 c.fl.length c4):=(blk_cell HX.out 4).trans rfl
     have m5:wr.cell? ⟨w.heap.size,5,none⟩ = some (.int .i64 c.sfrom):=(blk_cell HX.out 5).trans rfl
     have m6:wr.cell? ⟨w.heap.size,6,none⟩ = some (.int .i64 c.sto):=(blk_cell HX.out 6).trans rfl
     have m7:wr.cell? ⟨w.heap.size,7,none⟩ = some (.int .i64 c.per):=(blk_cell HX.out 7).trans rfl
     have m8:wr.cell? ⟨w.heap.size,8,none⟩ = some (.int .i64 c.delay):=(blk_cell HX.out 8).trans rfl
     have m9:wr.cell? ⟨w.heap.size,9,none⟩ = some (.int .i64 c.chunk):=(blk_cell HX.out 9).trans rfl
     have m10:wr.cell? ⟨w.heap.size,10,none⟩ = some (.int .i64 c.loss):=(blk_cell HX.out 10).trans rfl
     have m11:wr.cell? ⟨w.heap.size,11,none⟩ = some (.int .i64 c.rep):=(blk_cell HX.out 11).trans rfl
     have n1:w.heap.size ≠ wr.heap.size:=by have:=blk_lt HX.out;omega
     go_wp2_with fail
     have hblk:=blk_new wr (.cells (mkCells c ⟨A1,c1,A2,c2,A3,c3,A4,c4⟩ (traceId (c.sfrom + i) k) (.slice none 0 0)) 115)
     have hbel:Below wr.heap.size wr (wr.alloc (.cells (mkCells c ⟨A1,c1,A2,c2,A3,c3,A4,c4⟩ (traceId (c.sfrom + i) k) (.slice none 0 0)) 115)):=below_alloc (Below.refl _ _) _
     have hat:MkAt (wr.alloc (.cells (mkCells c ⟨A1,c1,A2,c2,A3,c3,A4,c4⟩ (traceId (c.sfrom + i) k) (.slice none 0 0)) 115)) wr.heap.size wr.heap.size c ⟨A1,c1,A2,c2,A3,c3,A4,c4⟩ (traceId (c.sfrom + i) k) [] (.slice none 0 0):=⟨hblk,rfl,.inl ⟨rfl,rfl⟩⟩
     obtain ⟨r1,r2,hcall⟩:=mtrace_calls wr wr.heap.size c ⟨A1,c1,A2,c2,A3,c3,A4,c4⟩ (c.sfrom + i) k (by omega) (by omega) (by omega) (by omega) (HR.out.below HB.out) HSY.out (Nat.le_refl _) _ _ hat hbel
     refine hcall.mono ?_
     rintro e w5 ⟨rfl,v5,hm5,hk5,hb5⟩
     obtain ⟨A7,c7,rfl⟩:=own_slice hm5.own
     have m12:w5.cell? ⟨wr.heap.size,12,none⟩ = some (.int .i64 (traceId (c.sfrom + i) k)):=(blk_cell hm5.blk 12).trans rfl
     have m13:w5.cell? ⟨wr.heap.size,13,none⟩ = some (.slice A7 (traceI c (c.sfrom + i) k).length c7):=(blk_cell hm5.blk 13).trans rfl
     have HV7:=Aside0.mk (own_base hm5.own HB.out.size)
     have HO7:=Aside0.mk (pw_own_below HO.out hb5)
     have HT7:=Aside0.mk (HT.out.below hb5)
     have HX7:=Aside0.mk (blk_below HX.out hb5)
     have HB7:=Aside0.mk (below_step HB.out hb5)
     have hxl:xs.length ≤ 1100:=by
      have h2:i * M ≤ 100 * M:=Nat.mul_le_mul_right M (by omega)
      have h3:=HL.out
      omega
     clear hblk hbel hat hcall hm5 hk5 hb5 HO HT HX HB m0 m1 m2 m3 m4 m5 m6 m7 m8 m9 m10 m11 s3 s4 s5 s6 s7 s8 q7 n1
     go_upto_region 10 with fail
     refine start_ (n:=13) (S:=fun w'=>Below w5.heap.size w5 w') (ds:=[11]) (bz 13 0) (by kernel_rfl) rfl rfl (Below.refl _ _).drew (fun hHeld=>?_)
     refine with_tabW trT.tab10 trT.bits10 (fun HT_ HW_=>?_)
     generalize w5.drew = wd at hHeld ⊢
     refine pu_ 0 (some 38) (bz 13 1) HT_ rfl rfl ?_
     refine pu_ 1 (some 39) (bz 13 3) HT_ rfl rfl ?_
     refine pu_ 2 (some 40) (bz 13 7) HT_ rfl rfl ?_
     refine pu_ 3 (some 41) (bz 13 15) HT_ rfl rfl ?_
     refine tk_ 4 (some 42) (bz 13 31) HT_ HW_ rfl rfl hHeld ?_ (by intro w' hS;replace m12:=below_at hS m12;go_simp;with_reducible rfl)
     refine pu_ 5 (some 43) (bz 13 63) HT_ rfl rfl ?_
     refine pu_ 6 (some 44) (bz 13 127) HT_ rfl rfl ?_
     refine pu_ 7 (some 45) (bz 13 255) HT_ rfl rfl ?_
     refine tk_ 8 (some 46) (bz 13 511) HT_ HW_ rfl rfl hHeld ?_ (by intro w' hS;replace m13:=below_at hS m13;go_simp;with_reducible rfl)
     refine pu_ 9 (some 47) (bz 13 1023) HT_ rfl rfl ?_
     refine one_ (i:=10) (N:=some 48) (bz 13 2047) rfl rfl (one_of HT_.out (by kernel_rfl)) (by decide) (fun K hK=>?_)
     refine event_step (w1:=World.alloc wd (.cells #[.int .i64 (traceId (c.sfrom + i) k),.int .i64 1,.slice A7 (traceI c (c.sfrom + i) k).length c7] 70)) (v:=.slice (some ⟨wd.heap.size,0,none⟩) 1 1) (by rfl) (by go_simp) ?_
     have hHeld0:=hHeld
     refine hK.out _ _ (below_alloc hHeld _) (fun _=>?_)
     clear hHeld
     have hHeld:=hHeld0
     clear hHeld0
     clear hK K
     refine norm_ (a':=?_) ?_ ?_
     rotate_left
     ·show Act.put _ (some 48) _ = _
      simp only [Act.put,List.setIfInBounds_toArray,List.set_cons_zero,List.set_cons_succ,i64_w,i32_w]
      rfl
     have HO8:=Aside0.mk (pw_own_below HO7.out hHeld)
     have HT8:=Aside0.mk (HT7.out.below hHeld)
     have HV8:=Aside0.mk (pw_own_below HV7.out hHeld)
     have HX8:=Aside0.mk (blk_below HX7.out hHeld)
     have HB8:=Aside0.mk (below_step HB7.out hHeld)
     refine last_ (i:=11) (N:=some 49) (bz 13 4095) rfl rfl (one_of HT_.out (by kernel_rfl)) (by decide) (fun K hK=>?_)
     refine step_append_cells (w0:=w) w.heap.size (by rfl) (.tmp 38) (.tmp 48) 62 70 _ 3 40 rfl Tryz.underlying62 info70 rfl (by decide) (by decide) (.slice A xs.length cp) xs.length (trc xs) [.int .i64 (traceId (c.sfrom + i) k),.int .i64 1,.slice A7 (traceI c (c.sfrom + i) k).length c7] (by rfl) (by rfl) rfl ?c1 HO8.out HB8.out HB8.out.size ?c3 ?_;(case c1=>intro u hu;simp at hu;rcases hu with rfl | rfl | rfl <;> rfl);(case c3=>first | omega | (simp;omega))
     intro v9 w9 hown1 hb1 hg1 hat1
     obtain ⟨A9,c9,rfl⟩:=own_slice hown1
     have HW:=Aside0.mk hown1
     have HG:=Aside0.mk hg1
     have HB9:=Aside0.mk hb1
     clear hown1 hb1 hg1 hat1
     refine hK.out _ _ ?_
     clear hK K
     refine norm_ (a':=?_) ?_ ?_
     rotate_left
     ·show Act.put _ (some 49) _ = _
      simp only [Act.put,List.setIfInBounds_toArray,List.set_cons_zero,List.set_cons_succ,i64_w,i32_w]
      rfl
     refine pu_ 12 (some 3) (bz 13 8191) HT_ rfl rfl ?_
     refine done_ (done_of HT_.out (by kernel_rfl)) ?_
     have hkeep:∀ (b:Nat) (cur:Array Value) (ty:TypeId),ty ≠ 70→wd.heap[b]? = some (Obj.cells cur ty (0,0))→w9.heap[b]? = wd.heap[b]?:=fun b cur ty hty hb=>HG.out.block b (blk_lt hb) (fun e=>by
      obtain ⟨cells,hc⟩:=own_typed HO8.out b e.symm
      rw [hb] at hc
      injection hc with hc
      injection hc with _ h2
      exact hty h2)
     have HT9:Aside0 (TsR w9 w.heap.size (xs ++ [((⟨traceId (c.sfrom + i) k,(traceI c (c.sfrom + i) k).map id⟩:Tr),.slice A7 (traceI c (c.sfrom + i) k).length c7)])):=⟨fun x hx=>by
      rcases List.mem_append.mp hx with hx | hx
      ·exact own_keep (HT8.out x hx) (fun b cur hb=>hkeep b cur 74 (by decide) hb)
      ·obtain rfl:=List.mem_singleton.mp hx
       have h9:=own_keep HV8.out (fun b cur hb=>hkeep b cur 74 (by decide) hb)
       simpa using h9⟩
     have HX9:=Aside0.mk ((hkeep _ _ 36 (by decide) HX8.out).trans HX8.out)
     have HO9:Aside0 (w9.ownsRow w.heap.size 70 3 (.slice A9 (xs ++ [((⟨traceId (c.sfrom + i) k,(traceI c (c.sfrom + i) k).map id⟩:Tr),Value.slice A7 (traceI c (c.sfrom + i) k).length c7)]).length c9) (xs ++ [((⟨traceId (c.sfrom + i) k,(traceI c (c.sfrom + i) k).map id⟩:Tr),Value.slice A7 (traceI c (c.sfrom + i) k).length c7)]).length (trc (xs ++ [((⟨traceId (c.sfrom + i) k,(traceI c (c.sfrom + i) k).map id⟩:Tr),Value.slice A7 (traceI c (c.sfrom + i) k).length c7)]))):=⟨by
      rw [trc_snoc,List.length_append]
      exact HW.out⟩
     have HM9:Aside0 ((xs ++ [((⟨traceId (c.sfrom + i) k,(traceI c (c.sfrom + i) k).map id⟩:Tr),Value.slice A7 (traceI c (c.sfrom + i) k).length c7)]).map (·.1) = ((List.range i).flatMap fun (i:Nat)=>slotTr c id (c.sfrom + i)) ++ (List.range (k + 1)).map fun (k:Nat)=>(⟨traceId (c.sfrom + i) k,(traceI c (c.sfrom + i) k).map id⟩:Tr)):=⟨by
      rw [List.map_append,HM.out,List.range_succ,List.map_append,List.append_assoc]
      rfl⟩
     have HL9:Aside0 ((xs ++ [((⟨traceId (c.sfrom + i) k,(traceI c (c.sfrom + i) k).map id⟩:Tr),Value.slice A7 (traceI c (c.sfrom + i) k).length c7)]).length = i * M + (k + 1)):=⟨by
      rw [List.length_append,HL.out]
      rfl⟩
     clear HO8 HT8 HV8 HX8 HB8 HW HG HM HL hkeep hHeld HO7 HT7 HV7 HX7 HB7 m12 m13
     go_wp2_with fail
     go_roundg (M - (k + 1))
     case measure=>omega
     case rel=>exact ⟨k + 1,_,c9,A9,by rw [List.length_append];rfl,by first | rfl | go_num,by omega,Nat.le_refl _,HM9,HL9,HO9,HT9,HB9,HX9⟩
    ·obtain rfl:k = M:=by omega
     have g2:decide ((k:Int) < c.per) = false:=by simp;omega
     have g3:¬ (k:Int) < c.per:=by omega
     have HM9:Aside0 (xs.map (·.1) = (List.range (i + 1)).flatMap fun (i:Nat)=>slotTr c id (c.sfrom + i)):=⟨by
      rw [HM.out,List.range_succ,List.flatMap_append,hM]
      simp [slotTr]⟩
     have HL9:Aside0 (xs.length = (i + 1) * k):=⟨by rw [HL.out,Nat.succ_mul]⟩
     clear HM HL
     go_wp2_with fail
     go_roundg (N - (i + 1))
     case measure=>omega
     case rel=>exact ⟨i + 1,xs,cp,A,by rfl,by first | rfl | (congr 1;omega) | (congr 2;omega),by omega,Nat.le_refl _,HM9,HL9,HO,HT,HB,HX⟩
  ·obtain rfl:i = N:=by omega
   have g0:decide (c.sfrom + (i:Int) < c.sto) = false:=by simp;omega
   have g1:¬ c.sfrom + (i:Int) < c.sto:=by omega
   have HM9:Aside0 (xs.map (·.1) = tracesI c id):=⟨by rw [HM.out,hN];rfl⟩
   clear HM
   go_wp2_with fail
   go_returns
   exact ⟨_,by rfl,⟨xs,HM9.out,HO.out,HT.out⟩,HB.out⟩
end Go.Proofs.YtdadnapfecmmdaaGreat.P
