/- Own texts of a proof about layer 55's simulate (merged): Mg. -/
import Derived.Test.YtdadnapfecmmdaaGreatXs17
import Derived.Test.YtdadnapfecmmdaaGreatXs2
import Derived.Test.YtdadnapfecmmdaaGreatXs9
namespace Go.Proofs.YtdadnapfecmmdaaGreat.P
set_option linter.unusedVariables false
set_option linter.unusedSimpArgs false
open Go.RowKit Go.Proofs.YtdadnapfecmmdaaGreatW.PrintWords Go.Proofs.YtdadnapfecmmdaaGreatW.PrintLast Go.Proofs.YtdadnapfecmmdaaGreatW.PrintMore
open Go.Proofs.YtdadnapfecmmdaaGreat.Hm
theorem own_cell51 {W:World} {b r cp:Nat} {xs:List (Tr × Value)} (ho:W.ownsRow b 70 3 (.slice (some ⟨r,0,none⟩) xs.length cp) xs.length (trc xs)) (j:Nat) (hj:j < xs.length):
  W.cell? ⟨r,j * 3,none⟩ = some (.int .i64 xs[j].1.id)∧W.cell? ⟨r,j * 3 + 1,none⟩ = some (.int .i64 1)∧W.cell? ⟨r,j * 3 + 2,none⟩ = some xs[j].2:=by
 rcases ho.2 with ⟨_,h⟩ | ⟨r',cap,cur,e,hb,hr,h1,h2,h3,h4⟩
 ·omega
 ·injection e with e
  injection e with e
  injection e with e
  subst e
  have ht:=trc_at xs j hj
  have hl:=trc_len xs
  have hc:∀ i,i < 3→cur[j * 3 + i]? = [Value.int .i64 xs[j].1.id,.int .i64 1,xs[j].2][i]?:=fun i hi=>by
   rw [← ht,List.getElem?_take,if_pos hi,List.getElem?_drop,← h4,List.getElem?_take,if_pos (by omega),Array.getElem?_toList]
  exact ⟨by rw [blk_cell hr];exact hc 0 (by omega),by rw [blk_cell hr];exact hc 1 (by omega),by rw [blk_cell hr];exact hc 2 (by omega)⟩
theorem spc_one (l:List Sp):∀ u ∈ spc l,u.oneCell' = true:=by
 induction l with
 | nil=>intro u hu;cases hu
 | cons s r ih=>
  intro u hu
  rcases List.mem_append.mp hu with h | h
  ·simp only [Sp.cells,List.mem_cons,List.not_mem_nil,or_false] at h
   rcases h with rfl | rfl | rfl | rfl | rfl | rfl | rfl | rfl | rfl | rfl | rfl | rfl | rfl | rfl <;> rfl
  ·exact ih u h
theorem own_reads {W:World} {b r cp:Nat} {l:List Sp} (ho:W.ownsRow b 74 14 (.slice (some ⟨r,0,none⟩) l.length cp) l.length (spc l)) (i:Nat) (u:Value) (hi:(spc l)[i]? = some u):W.cell? ⟨r,i,none⟩ = some u:=by
 rcases ho.2 with ⟨_,h⟩ | ⟨r',cap,cur,e,hb,hr,h1,h2,h3,h4⟩
 ·obtain rfl:l = []:=List.eq_nil_of_length_eq_zero h
  cases hi
 ·injection e with e
  injection e with e
  injection e with e
  subst e
  have hil:i < l.length * 14:=by rw [← spc_len];exact (List.getElem?_eq_some_iff.mp hi).1
  rw [blk_cell hr,← hi,← h4,List.getElem?_take,if_pos hil,Array.getElem?_toList]
def shT.T10:Bool × List (List Nat × List Nat):=(true,[([],[]),([],[]),([1],[1]),([],[]),([2,3],[2,3]),([4],[4]),([5],[5]),([0,6],[0,6]),([7],[7]),([8],[8]),([8],[8]),([9,7,0,1,2,3,4,5,6,7,8,9],[9]),([10,11,0,1,2,3,4,5,6,7,8,9,10,11],[10])])
def shT.B10:List Nat:=[0,0,2,0,14,30,62,127,255,511,511,1023,4095]
theorem shT.tab10:rtab .any (opsOf Tryz.f25 10) = shT.T10:=by kernel_rfl
theorem shT.bits10:waitsOk shT.T10.2 shT.B10 = true:=by kernel_rfl
def shT.T11:Bool × List (List Nat × List Nat):=(true,[([],[]),([0],[0]),([],[]),([],[]),([3],[3]),([],[]),([],[]),([6],[6]),([],[]),([7,8],[7,8]),([9],[9]),([10],[10]),([],[]),([11,12],[11,12]),([],[]),([14],[14]),([],[]),([15,16],[15,16]),([17],[17]),([18],[18]),([],[]),([19,20],[19,20]),([1,2,0,1,2,6,7,8,9,10,11,12,13,19],[1,2]),([22,0,1,2,6,7,8,9,10,11,12,13,19],[22]),([23,13,0,1,2,6,7,8,9,10,11,12,13,19],[13,23]),([4,5,0,1,2,3,4,5,6,7,8,9,10,11,12,13,14,15,16,17,18,19,20,21,22,23,24],[4,5]),([25,0,1,2,3,4,5,6,7,8,9,10,11,12,13,14,15,16,17,18,19,20,21,22,23,24],[25]),([26,21,24,0,1,2,3,4,5,6,7,8,9,10,11,12,13,14,15,16,17,18,19,20,21,22,23,24],[21,26])])
def shT.B11:List Nat:=[0,1,0,0,8,0,0,64,0,448,960,1984,0,8128,0,16384,0,114688,245760,507904,0,2080768,1048519,5242823,13631431,33554431,67108863,134217727]
theorem shT.tab11:rtab .any (opsOf Tryz.f25 11) = shT.T11:=by kernel_rfl
theorem shT.bits11:waitsOk shT.T11.2 shT.B11 = true:=by kernel_rfl
set_option maxHeartbeats 8000000 in
set_option maxRecDepth 100000 in
theorem mshown_calls (c:Cfg) (p:CfgAt) (b:Nat) (ts:List Tr) (vt:Value) (w:World) (hR:CfgR w p c) (hT:TsOut b w ts vt) (hne:∀ x ∈ ts,x.l ≠ []) (hlen:∀ x ∈ ts,x.l.length ≤ 1000) (htl:ts.length ≤ 10000):
  Calls Tryz.prog 25 #[c.val p,vt] w fun e w'=>∃ v,e = .returned v∧TsOut w.heap.size w' (ts.map fun x=>⟨x.id,x.l.map (shiftSp c.off)⟩) v∧Below w.heap.size w w':=by
 obtain ⟨xs,hxs,hown,htr⟩:=hT
 have hxl:xs.length = ts.length:=by rw [← hxs,List.length_map]
 obtain ⟨A0,cp00,rfl⟩:=own_slice hown
 obtain ⟨A1,c1,A2,c2,A3,c3,A4,c4⟩:=p
 obtain ⟨i0,hi0,hz⟩:=Option.map_eq_some_iff.1 info74
 simp only [Prod.mk.injEq] at hz
 obtain ⟨hz0,hz1,hz2⟩:=hz
 have HI:=Aside0.mk hi0
 have HZ0:=Aside0.mk hz0
 have HZ1:=Aside0.mk hz1
 have HZ2:=Aside0.mk hz2
 have HCF:=Aside0.mk (fun W' (hb:Below w.heap.size w W')=>hR.below hb)
 have HXS:=Aside0.mk hxs
 have HXL:=Aside0.mk hxl
 have hxb:xs.length ≤ 10000:=by omega
 have HOW:=Aside0.mk hown
 have HTR:=Aside0.mk htr
 have HNE:=Aside0.mk hne
 have HLEN:=Aside0.mk hlen
 have HX0:=Aside0.mk (blk_new w (.cells (c.cells ⟨A1,c1,A2,c2,A3,c3,A4,c4⟩) 36))
 have HB0:=Aside0.mk (below_alloc (Below.refl w.heap.size w) (.cells (c.cells ⟨A1,c1,A2,c2,A3,c3,A4,c4⟩) 36))
 clear hR hxs hown htr hne hlen hxl htl hi0 hz0 hz1 hz2
 go_enter Tryz.func25,Tryz.ntmps25
 go_wp2_with fail
 go_loopg [5,6] xs.length (fun gg s5 s6 wr=>∃ (i:Nat) (ys:List (Tr × Value)) (cp:Nat) (A:Option Addr),s5 = .slice A ys.length cp∧s6 = .int .i64 (i:Int)∧i ≤ xs.length∧xs.length - i ≤ gg∧Aside0 (ys.map (·.1) = (ts.take i).map fun x=>(⟨x.id,x.l.map (shiftSp c.off)⟩:Tr))∧Aside0 (ys.length = i)∧Aside0 (wr.ownsRow w.heap.size 70 3 (.slice A ys.length cp) ys.length (trc ys))∧Aside0 (TsR wr w.heap.size ys)∧Aside0 (Below w.heap.size w wr)∧Aside0 (wr.heap[w.heap.size]? = some (.cells (c.cells ⟨A1,c1,A2,c2,A3,c3,A4,c4⟩) 36 (0,0))))
 case atStart=>exact ⟨0,[],0,none,by rfl,by rfl,by omega,by omega,⟨rfl⟩,⟨rfl⟩,⟨rfl,.inl ⟨rfl,rfl⟩⟩,⟨fun _ h=>by cases h⟩,HB0,HX0⟩
 case round=>
  clear HB0 HX0
  obtain ⟨i,ys,cp,A,rfl,rfl,hi,hgi,HM,HL,HO,HT,HB,HX⟩:=hrel
  by_cases hlt:i < xs.length
  ·have g0:decide ((i:Int) < (xs.length:Int)) = true:=by simpa using hlt
   have g1:(i:Int) < (xs.length:Int):=by omega
   have s1:IntKind.i64.wrap ((i:Int) + 1) = (i:Int) + 1:=IntWalk.i64_in _ (by omega)
   have how:=pw_own_below HOW.out HB.out
   obtain ⟨r0,cq0,cur0,e0,_,_⟩:=own_some how (by omega)
   injection e0 with e0 _ e0'
   subst e0
   subst e0'
   obtain ⟨t0,t1,t2⟩:=own_cell51 how i hlt
   have hvx:=pw_own_below (HTR.out xs[i] (List.getElem_mem hlt)) HB.out
   have hx1:ts[i]'(by have:=HXL.out;omega) = xs[i].1:=by
    have:=HXS.out
    subst this
    simp
   have hxm:xs[i].1 ∈ ts:=hx1 ▸ List.getElem_mem _
   have hlne:0 < xs[i].1.l.length:=List.length_pos_iff.mpr (HNE.out _ hxm)
   have hlle:=HLEN.out _ hxm
   have HTK:Aside0 (ts.take (i + 1) = ts.take i ++ [xs[i].1]):=⟨by rw [List.take_succ_eq_append_getElem (by have:=HXL.out;omega),hx1]⟩
   clear how hxm hx1
   obtain ⟨rx,cx,curx,ex,hrx,_⟩:=own_some hvx hlne
   rw [ex] at t2 hvx
   generalize xs[i].1 = x at t0 t2 hvx hlne hlle HTK
   have HVX:=Aside0.mk hvx
   clear hvx ex hrx
   go_upto_region 6 with fail
   have hx0:=blk_new wr (.cells #[.int .i64 x.id,.int .i64 1,.slice (some ⟨rx,0,none⟩) x.l.length cx] 70)
   have hbx:Below wr.heap.size wr (wr.alloc (.cells #[.int .i64 x.id,.int .i64 1,.slice (some ⟨rx,0,none⟩) x.l.length cx] 70)):=below_alloc (Below.refl _ _) _
   clear t0 t1 t2
   obtain ⟨bt,hbt⟩:∃ bt:Nat,bt = wr.heap.size:=⟨_,rfl⟩
   have hx0':(wr.alloc (.cells #[.int .i64 x.id,.int .i64 1,.slice (some ⟨rx,0,none⟩) x.l.length cx] 70)).heap[bt]? = some (.cells #[.int .i64 x.id,.int .i64 1,.slice (some ⟨rx,0,none⟩) x.l.length cx] 70 (0,0)):=by rw [hbt];exact hx0
   rw [← hbt]
   generalize wr.alloc (.cells #[.int .i64 x.id,.int .i64 1,.slice (some ⟨rx,0,none⟩) x.l.length cx] 70) = wa at hx0' hbx ⊢
   have HA0:=Aside0.mk hx0'
   have HBA:=Aside0.mk hbx
   have hbtl:bt < wa.heap.size:=blk_lt hx0'
   have hbtw:wr.heap.size ≤ bt:=by omega
   clear hbt
   clear hx0 hx0' hbx
   go_cut [7] (fun s7 wz=>s7 = .pointer (some ⟨bt,0,none⟩)∧∃ r cp0:Nat,bt ≠ r∧Aside0 (wz.heap[bt]? = some (.cells #[.int .i64 x.id,.int .i64 1,(.slice (some ⟨r,0,none⟩) x.l.length cp0)] 70 (0,0)))∧Aside0 (wz.ownsRow wr.heap.size 74 14 (.slice (some ⟨r,0,none⟩) x.l.length cp0) x.l.length (spc x.l))∧Aside0 (Below wr.heap.size wr wz))
   case first=>
    have q2:wa.cell? ⟨bt,2,none⟩ = some (.slice (some ⟨rx,0,none⟩) x.l.length cx):=(blk_cell HA0.out 2).trans rfl
    have n1:bt ≠ wa.heap.size:=by omega
    go_wp2_with (at_builtin;refine wpList_append_own _ rfl _ _ 68 rfl wa.heap.size 74 i0 _ 14 168 Tryz.underlying68 HI.out HZ0.out HZ1.out HZ2.out rfl (by decide) _ _ _ rfl (World.ownsRow_made wa #[] 0 (Nat.le_refl _) (Nat.zero_le _) (by simp)) ⟨rx,0,none⟩ x.l.length cx (spc x.l) rfl ?qc1 ?qc2 ?qc3 ?qc4 ?qc5 ?qc6 ?_)
    case qc1=>rw [spc_len]
    case qc2=>
     intro j u hj
     have h1:=own_reads (pw_own_below HVX.out HBA.out) j u hj
     exact Lib.cell?_alloc_some _ h1
    case qc3=>exact spc_one x.l
    case qc4=>have:(1000:Nat) ≤ maxLen:=(by decide);omega
    case qc5=>omega
    intro v' w1 hown hgrow hnil
    obtain ⟨r,cp0,cur,rfl,hr,hbr⟩:=own_some hown (by omega)
    have hbw:Below wa.heap.size wa w1:=((Below.refl _ wa).alloc (Nat.le_refl _) _).grown hgrow (by simp) (by intro k hk;simp [Value.ownBlock] at hk;omega)
    have hb1:=blk_below HA0.out hbw
    have HB1:=Aside0.mk hb1
    have HOV:Aside0 (w1.ownsRow wr.heap.size 74 14 (.slice (some ⟨r,0,none⟩) x.l.length cp0) x.l.length (spc x.l)):=⟨by
     have h:=own_base hown HBA.out.size
     simpa using h⟩
    have HBW1:=Aside0.mk (below_step HBA.out hbw)
    have hne1:bt ≠ r:=by omega
    have z1:=blk_frozen hb1 2
    have z2:w1.cell? ⟨bt,2,none⟩ = some (.slice (some ⟨rx,0,none⟩) x.l.length cx):=(blk_cell hb1 2).trans rfl
    clear hown hgrow hnil hr hbr hbw hb1 q2 n1
    go_wp2_with fail
    go_meet
    refine ⟨rfl,r,cp0,hne1,⟨?_⟩,⟨?_⟩,⟨HBW1.out.setCell (by omega) _⟩⟩
    ·have h:=blk_set HB1.out 2 (.slice (some ⟨r,0,none⟩) x.l.length cp0)
     simpa using h
    ·exact own_setCell HOV.out (by simp [Value.ownBlock];exact hne1) _
   case rest=>
   obtain ⟨rfl,r,cp0,hbr,HV4,HO4,HB4⟩:=hcut
   clear HA0 HBA hbtl HVX
   obtain ⟨wt,hwt⟩:∃ wt:World,wt = wr:=⟨_,rfl⟩
   rw [← hwt] at HO HT HB HX HO4 HB4 hbtw
   clear hwt
   have HO4:Aside0 (wc.ownsRow wt.heap.size 74 14 (.slice (some ⟨r,0,none⟩) x.l.length cp0) x.l.length (spc (mid (shiftSp c.off) x.l 0))):=⟨by rw [mid_zero];exact HO4.out⟩
   go_wp2_with fail
   go_loopg [8] x.l.length (fun gg s8 w4=>∃ (m:Nat),m ≤ x.l.length∧x.l.length - m ≤ gg∧s8 = .int .i64 (m:Int)∧Aside0 (w4.ownsRow wt.heap.size 74 14 (.slice (some ⟨r,0,none⟩) x.l.length cp0) x.l.length (spc (mid (shiftSp c.off) x.l m)))∧Aside0 (w4.heap[bt]? = some (.cells #[.int .i64 x.id,.int .i64 1,(.slice (some ⟨r,0,none⟩) x.l.length cp0)] 70 (0,0)))∧Aside0 (Below wt.heap.size wt w4))
   case atStart=>exact ⟨0,by omega,by omega,by rfl,HO4,HV4,HB4⟩
   case round=>
    clear HO4 HV4 HB4
    obtain ⟨m,hm,hgm,rfl,HO4,HV4,HB4⟩:=hrel
    have q2:wr.cell? ⟨bt,2,none⟩ = some (.slice (some ⟨r,0,none⟩) x.l.length cp0):=(blk_cell HV4.out 2).trans rfl
    by_cases hmlt:m < x.l.length
    ·have g2:decide ((m:Int) < (x.l.length:Int)) = true:=by simpa using hmlt
     have g3:(m:Int) < (x.l.length:Int):=by omega
     have g4:(0:Int) ≤ (m:Int):=by omega
     have s3:IntKind.i64.wrap ((m:Int) + 1) = (m:Int) + 1:=IntWalk.i64_in _ (by omega)
     have hmd:(mid (shiftSp c.off) x.l m).length = x.l.length:=mid_len _ x.l m
     have hml:m < (mid (shiftSp c.off) x.l m).length:=by omega
     have hms:(mid (shiftSp c.off) x.l m)[m] = x.l[m]:=mid_get _ x.l m hmlt hml
     have HST:=Aside0.mk (mid_set (shiftSp c.off) x.l m hmlt)
     have HO4:Aside0 (wr.ownsRow wt.heap.size 74 14 (.slice (some ⟨r,0,none⟩) (mid (shiftSp c.off) x.l m).length cp0) (mid (shiftSp c.off) x.l m).length (spc (mid (shiftSp c.off) x.l m))):=⟨by rw [hmd];exact HO4.out⟩
     obtain ⟨e4,_,_,_⟩:=own_cell56 HO4.out m 4 hml (by omega)
     obtain ⟨e9,_,_,_⟩:=own_cell56 HO4.out m 9 hml (by omega)
     obtain ⟨e10,_,_,_⟩:=own_cell56 HO4.out m 10 hml (by omega)
     rw [hms] at e4 e9 e10
     have HSF:Aside0 (shiftSp c.off x.l[m] = { x.l[m] with st:=wrap64 (x.l[m].st + (offOf c.off x.l[m].clk).1),en:=wrap64 (x.l[m].en + (offOf c.off x.l[m].clk).1) }):=⟨rfl⟩
     generalize x.l[m] = s at e4 e9 e10 hms HST HSF
     replace e4:wr.cell? ⟨r,m * 14 + 4,none⟩ = some (.int .i64 s.clk):=e4
     replace e9:wr.cell? ⟨r,m * 14 + 9,none⟩ = some (.int .i64 s.st):=e9
     replace e10:wr.cell? ⟨r,m * 14 + 10,none⟩ = some (.int .i64 s.en):=e10
     go_upto_region 10 with fail
     have HBW:=Aside0.mk (below_step HB.out HB4.out)
     go_cut [9] (fun s9 wz=>s9 = .int .i64 (offOf c.off s.clk).1∧Aside0 (Below wr.heap.size wr wz))
     case first=>
      have m0:wr.cell? ⟨w.heap.size,0,none⟩ = some (.int .i64 c.seed):=(HB4.out.cell (World.block_lt_of_cell? wt ⟨w.heap.size,0,none⟩ ((blk_cell HX.out 0).trans rfl))).trans ((blk_cell HX.out 0).trans rfl)
      have m1:wr.cell? ⟨w.heap.size,1,none⟩ = some (.slice A1 c.sv.length c1):=(HB4.out.cell (World.block_lt_of_cell? wt ⟨w.heap.size,1,none⟩ ((blk_cell HX.out 1).trans rfl))).trans ((blk_cell HX.out 1).trans rfl)
      have m2:wr.cell? ⟨w.heap.size,2,none⟩ = some (.slice A2 c.off.length c2):=(HB4.out.cell (World.block_lt_of_cell? wt ⟨w.heap.size,2,none⟩ ((blk_cell HX.out 2).trans rfl))).trans ((blk_cell HX.out 2).trans rfl)
      have m3:wr.cell? ⟨w.heap.size,3,none⟩ = some (.slice A3 c.ch.length c3):=(HB4.out.cell (World.block_lt_of_cell? wt ⟨w.heap.size,3,none⟩ ((blk_cell HX.out 3).trans rfl))).trans ((blk_cell HX.out 3).trans rfl)
      have m4:wr.cell? ⟨w.heap.size,4,none⟩ = some (.slice A4 c.fl.length c4):=(HB4.out.cell (World.block_lt_of_cell? wt ⟨w.heap.size,4,none⟩ ((blk_cell HX.out 4).trans rfl))).trans ((blk_cell HX.out 4).trans rfl)
      have m5:wr.cell? ⟨w.heap.size,5,none⟩ = some (.int .i64 c.sfrom):=(HB4.out.cell (World.block_lt_of_cell? wt ⟨w.heap.size,5,none⟩ ((blk_cell HX.out 5).trans rfl))).trans ((blk_cell HX.out 5).trans rfl)
      have m6:wr.cell? ⟨w.heap.size,6,none⟩ = some (.int .i64 c.sto):=(HB4.out.cell (World.block_lt_of_cell? wt ⟨w.heap.size,6,none⟩ ((blk_cell HX.out 6).trans rfl))).trans ((blk_cell HX.out 6).trans rfl)
      have m7:wr.cell? ⟨w.heap.size,7,none⟩ = some (.int .i64 c.per):=(HB4.out.cell (World.block_lt_of_cell? wt ⟨w.heap.size,7,none⟩ ((blk_cell HX.out 7).trans rfl))).trans ((blk_cell HX.out 7).trans rfl)
      have m8:wr.cell? ⟨w.heap.size,8,none⟩ = some (.int .i64 c.delay):=(HB4.out.cell (World.block_lt_of_cell? wt ⟨w.heap.size,8,none⟩ ((blk_cell HX.out 8).trans rfl))).trans ((blk_cell HX.out 8).trans rfl)
      have m9:wr.cell? ⟨w.heap.size,9,none⟩ = some (.int .i64 c.chunk):=(HB4.out.cell (World.block_lt_of_cell? wt ⟨w.heap.size,9,none⟩ ((blk_cell HX.out 9).trans rfl))).trans ((blk_cell HX.out 9).trans rfl)
      have m10:wr.cell? ⟨w.heap.size,10,none⟩ = some (.int .i64 c.loss):=(HB4.out.cell (World.block_lt_of_cell? wt ⟨w.heap.size,10,none⟩ ((blk_cell HX.out 10).trans rfl))).trans ((blk_cell HX.out 10).trans rfl)
      have m11:wr.cell? ⟨w.heap.size,11,none⟩ = some (.int .i64 c.rep):=(HB4.out.cell (World.block_lt_of_cell? wt ⟨w.heap.size,11,none⟩ ((blk_cell HX.out 11).trans rfl))).trans ((blk_cell HX.out 11).trans rfl)
      refine start_ (n:=13) (S:=fun w'=>Below wr.heap.size wr w') (ds:=[]) (bz 13 0) (by kernel_rfl) rfl rfl (Below.refl _ _).drew (fun hHeld=>?_)
      refine with_tabW shT.tab10 shT.bits10 (fun HT_ HW_=>?_)
      generalize wr.drew = wd at hHeld ⊢
      refine tk_ 0 (some 34) (bz 13 1) HT_ HW_ rfl rfl hHeld ?_ (by intro w' hS;replace m0:=below_at hS m0;replace m1:=below_at hS m1;replace m2:=below_at hS m2;replace m3:=below_at hS m3;replace m4:=below_at hS m4;replace m5:=below_at hS m5;replace m6:=below_at hS m6;replace m7:=below_at hS m7;replace m8:=below_at hS m8;replace m9:=below_at hS m9;replace m10:=below_at hS m10;replace m11:=below_at hS m11;go_simp;with_reducible rfl)
      refine pu_ 1 (some 35) (bz 13 3) HT_ rfl rfl ?_
      refine tk_ 2 (some 36) (bz 13 7) HT_ HW_ rfl rfl hHeld ?_ (by intro w' hS;replace q2:=below_at hS q2;go_simp;with_reducible rfl)
      refine pu_ 3 (some 37) (bz 13 15) HT_ rfl rfl ?_
      refine pu_ 4 (some 38) (bz 13 31) HT_ rfl rfl ?_
      refine pu_ 5 (some 39) (bz 13 63) HT_ rfl rfl ?_
      refine tk_ 6 (some 40) (bz 13 127) HT_ HW_ rfl rfl hHeld ?_ (by intro w' hS;replace e4:=below_at hS e4;go_simp;with_reducible rfl)
      refine one_ (i:=7) (N:=some 41) (bz 13 255) rfl rfl (one_of HT_.out (by kernel_rfl)) (by decide) (fun K hK=>?_)
      refine goes_ Tryz.func40 (by kernel_rfl) rfl #[c.val ⟨A1,c1,A2,c2,A3,c3,A4,c4⟩,.int .i64 s.clk] (by rfl) rfl rfl (by (try simp only [List.map_toArray,List.map_cons,List.map_nil]);first | done | rfl) ?_
      with_reducible refine (moffset_calls c ⟨A1,c1,A2,c2,A3,c3,A4,c4⟩ s.clk _ (HCF.out _ (below_step HBW.out hHeld))).mono ?_
      rintro e wx ⟨rfl,hb⟩
      refine ⟨_,rfl,?_⟩
      replace hHeld:=below_step hHeld hb
      clear hb
      refine hK.out _ _ hHeld (fun hHeld=>?_)
      clear hK K
      refine norm_ (a':=?_) ?_ ?_
      rotate_left
      ·show Act.put _ (some 41) _ = _
       simp only [Act.put,List.setIfInBounds_toArray,List.set_cons_zero,List.set_cons_succ,i64_w,i32_w]
       rfl
      refine pu_ 8 (some 33) (bz 13 511) HT_ rfl rfl ?_
      refine pu_ 9 (some 42) (bz 13 1023) HT_ rfl rfl ?_
      refine pu_ 10 (some 43) (bz 13 2047) HT_ rfl rfl ?_
      refine pu_ 11 (some 9) (bz 13 4095) HT_ rfl rfl ?_
      refine pu_ 12 (some 10) (bz 13 8191) HT_ rfl rfl ?_
      refine done_ (done_of HT_.out (by kernel_rfl)) ?_
      go_wp2
      go_meet
      exact ⟨rfl,⟨hHeld⟩⟩
     case rest=>
     obtain ⟨rfl,HB5⟩:=hcut
     replace HO4:=Aside0.mk (pw_own_below HO4.out HB5.out)
     replace HV4:=Aside0.mk (blk_below HV4.out HB5.out)
     replace q2:=below_at HB5.out q2
     replace e9:=below_at HB5.out e9
     replace e10:=below_at HB5.out e10
     have HB6:=Aside0.mk (below_step HB4.out HB5.out)
     generalize (offOf c.off s.clk).1 = by_ at HSF ⊢
     clear HB4 HB5 HBW e4
     go_upto_region 11 with fail
     have hdr:Below wc.heap.size wc wc.drew:=(Below.refl _ _).drew
     have HO5:=Aside0.mk (pw_own_below HO4.out hdr)
     obtain ⟨k9,f9,hbr1,_⟩:=own_cell56 HO5.out m 9 hml (by omega)
     obtain ⟨k10,f10,_,_⟩:=own_cell56 HO5.out m 10 hml (by omega)
     rw [hms] at k9 k10
     replace k9:wc.drew.cell? ⟨r,m * 14 + 9,none⟩ = some (.int .i64 s.st):=k9
     replace k10:wc.drew.cell? ⟨r,m * 14 + 10,none⟩ = some (.int .i64 s.en):=k10
     have HVD:=Aside0.mk (blk_below HV4.out hdr)
     refine start_ (n:=28) (S:=fun w'=>w'.heap[bt]? = some (.cells #[.int .i64 x.id,.int .i64 1,(.slice (some ⟨r,0,none⟩) x.l.length cp0)] 70 (0,0))∧w'.cell? ⟨r,m * 14 + 10,none⟩ = some (.int .i64 s.en)) (ds:=[27]) (bz 28 0) (by kernel_rfl) rfl rfl ⟨HVD.out,k10⟩ (fun hHeld=>?_)
     refine with_tabW shT.tab11 shT.bits11 (fun HT_ HW_=>?_)
     generalize wc.drew = wd at hHeld hdr HO5 k9 k10 f9 f10 HVD ⊢
     refine pu_ 0 (some 44) (bz 28 1) HT_ rfl rfl ?_
     refine tk_ 1 (some 45) (bz 28 3) HT_ HW_ rfl rfl hHeld ?_ (by intro w' hS;have q2:w'.cell? ⟨bt,2,none⟩ = some (.slice (some ⟨r,0,none⟩) x.l.length cp0):=(blk_cell hS.1 2).trans rfl;go_simp;with_reducible rfl)
     refine pu_ 2 (some 46) (bz 28 7) HT_ rfl rfl ?_
     refine pu_ 3 (some 47) (bz 28 15) HT_ rfl rfl ?_
     refine tk_ 4 (some 48) (bz 28 31) HT_ HW_ rfl rfl hHeld ?_ (by intro w' hS;have q2:w'.cell? ⟨bt,2,none⟩ = some (.slice (some ⟨r,0,none⟩) x.l.length cp0):=(blk_cell hS.1 2).trans rfl;go_simp;with_reducible rfl)
     refine pu_ 5 (some 49) (bz 28 63) HT_ rfl rfl ?_
     refine pu_ 6 (some 50) (bz 28 127) HT_ rfl rfl ?_
     refine tk_ 7 (some 51) (bz 28 255) HT_ HW_ rfl rfl hHeld ?_ (by intro w' hS;have q2:w'.cell? ⟨bt,2,none⟩ = some (.slice (some ⟨r,0,none⟩) x.l.length cp0):=(blk_cell hS.1 2).trans rfl;go_simp;with_reducible rfl)
     refine pu_ 8 (some 52) (bz 28 511) HT_ rfl rfl ?_
     refine pu_ 9 (some 53) (bz 28 1023) HT_ rfl rfl ?_
     refine pu_ 10 (some 54) (bz 28 2047) HT_ rfl rfl ?_
     refine pu_ 12 (some 56) (bz 28 6143) HT_ rfl rfl ?_
     refine pu_ 14 (some 58) (bz 28 22527) HT_ rfl rfl ?_
     refine tk_ 15 (some 59) (bz 28 55295) HT_ HW_ rfl rfl hHeld ?_ (by intro w' hS;have q2:w'.cell? ⟨bt,2,none⟩ = some (.slice (some ⟨r,0,none⟩) x.l.length cp0):=(blk_cell hS.1 2).trans rfl;go_simp;with_reducible rfl)
     refine pu_ 16 (some 60) (bz 28 120831) HT_ rfl rfl ?_
     refine pu_ 17 (some 61) (bz 28 251903) HT_ rfl rfl ?_
     refine pu_ 18 (some 62) (bz 28 514047) HT_ rfl rfl ?_
     refine tk_ 19 (some 63) (bz 28 1038335) HT_ HW_ rfl rfl hHeld ?_ (by intro w' hS;have k10':=hS.2;go_simp;with_reducible rfl)
     refine pu_ 20 (some 64) (bz 28 2086911) HT_ rfl rfl ?_
     refine pu_ 21 (some 65) (bz 28 4184063) HT_ rfl rfl ?_
     refine one_ (i:=11) (N:=some 55) (bz 28 4186111) rfl rfl (one_of HT_.out (by kernel_rfl)) (by decide) (fun K hK=>?_)
     rw [if_pos (by rfl)]
     go_simp
     refine hK.out _ _ hHeld (fun hHeld=>?_)
     clear hK K
     refine pu_ 13 (some 57) (bz 28 4194303) HT_ rfl rfl ?_
     refine pu_ 22 (some 66) (bz 28 8388607) HT_ rfl rfl ?_
     refine pu_ 23 (some 67) (bz 28 16777215) HT_ rfl rfl ?_
     refine one_ (i:=24) (N:=none) (bz 28 33554431) rfl rfl (one_of HT_.out (by kernel_rfl)) (by decide) (fun K hK=>?_)
     rw [if_pos (by rfl)]
     go_simp
     refine hK.out _ _ ⟨(Below.heap_setCell _ _ _ _ hbr).trans HVD.out,by go_simp⟩ (fun hHeld=>?_)
     clear hK K
     refine pu_ 25 (some 68) (bz 28 67108863) HT_ rfl rfl ?_
     refine pu_ 26 (some 69) (bz 28 134217727) HT_ rfl rfl ?_
     refine last_ (i:=27) (N:=none) (bz 28 268435455) rfl rfl (one_of HT_.out (by kernel_rfl)) (by decide) (fun K hK=>?_)
     rw [if_pos (by rfl)]
     go_simp
     refine hK.out _ _ ?_
     clear hK K
     refine done_ (done_of HT_.out (by kernel_rfl)) ?_
     have HO7:Aside0 (((wd.setCell ⟨r,m * 14 + 9,none⟩ (.int .i64 (wrap64 (s.st + by_)))).setCell ⟨r,m * 14 + 10,none⟩ (.int .i64 (wrap64 (s.en + by_)))).ownsRow wt.heap.size 74 14 (.slice (some ⟨r,0,none⟩) x.l.length cp0) x.l.length (spc (mid (shiftSp c.off) x.l (m + 1)))):=⟨by
      have h:=own_shift HO5.out m hml (wrap64 (s.st + by_)) (wrap64 (s.en + by_))
      rw [hms,← HSF.out,HST.out,hmd] at h
      exact h⟩
     have HV7:Aside0 (((wd.setCell ⟨r,m * 14 + 9,none⟩ (.int .i64 (wrap64 (s.st + by_)))).setCell ⟨r,m * 14 + 10,none⟩ (.int .i64 (wrap64 (s.en + by_)))).heap[bt]? = some (.cells #[.int .i64 x.id,.int .i64 1,(.slice (some ⟨r,0,none⟩) x.l.length cp0)] 70 (0,0))):=⟨by
      rw [Below.heap_setCell _ _ _ _ hbr,Below.heap_setCell _ _ _ _ hbr]
      exact HVD.out⟩
     have HB7:Aside0 (Below wt.heap.size wt ((wd.setCell ⟨r,m * 14 + 9,none⟩ (.int .i64 (wrap64 (s.st + by_)))).setCell ⟨r,m * 14 + 10,none⟩ (.int .i64 (wrap64 (s.en + by_))))):=⟨((below_step HB6.out hdr).setCell hbr1 _).setCell hbr1 _⟩
     clear HO4 HV4 HB6 q2 e9 e10 HST HSF hms hml
     go_wp2_with fail
     go_roundg (x.l.length - (m + 1))
     case measure=>omega
     case rel=>exact ⟨m + 1,by omega,Nat.le_refl _,by first | rfl | go_num,HO7,HV7,HB7⟩
    ·obtain rfl:m = x.l.length:=by omega
     have g2:decide ((x.l.length:Int) < (x.l.length:Int)) = false:=by simp
     have q0:wr.cell? ⟨bt,0,none⟩ = some (.int .i64 x.id):=(blk_cell HV4.out 0).trans rfl
     have q1:wr.cell? ⟨bt,1,none⟩ = some (.int .i64 1):=(blk_cell HV4.out 1).trans rfl
     have hO:=HO4.out
     rw [mid_end] at hO
     have HO5:=Aside0.mk (own_base hO HB.out.size)
     have HT5:=Aside0.mk (HT.out.below HB4.out)
     have HO6:=Aside0.mk (pw_own_below HO.out HB4.out)
     have HX5:=Aside0.mk (blk_below HX.out HB4.out)
     have HB5:=Aside0.mk (below_step HB.out HB4.out)
     have hyl:ys.length = i:=HL.out
     have hbase:w.heap.size ≤ wr.heap.size:=HB5.out.size
     clear hO HO4 HV4 HB4 HT HO HX HB
     go_wp2_with (at_builtin;go_must (refine print_append_cells (w0:=w) w.heap.size rfl _ _ 62 70 _ 3 40 rfl Tryz.underlying62 info70 rfl (by decide) (by decide) (.slice A ys.length cp) ys.length (trc ys) [.int .i64 x.id,.int .i64 1,(.slice (some ⟨r,0,none⟩) x.l.length cp0)] rfl ?c4 rfl ?c1 HO6.out HB5.out ?c2 ?c3 ?_;(case c1=>intro u hu;simp at hu;rcases hu with rfl | rfl | rfl <;> rfl);(case c4=>show Value.slice (some ⟨wr.heap.size,0,none⟩) 1 1 = _;first | rfl | simp);(case c2=>first | omega | (simp;omega));(case c3=>first | omega | (simp;omega));intro v1 w1 hown1 hb1 hg1 hat1;obtain ⟨A1',cp1,rfl⟩:=own_slice hown1;have HW:=Aside0.mk hown1;have HG:=Aside0.mk hg1;have HB6:=Aside0.mk hb1;clear hown1 hg1 hb1 hat1))
     have hkeep:∀ (b:Nat) (cur:Array Value) (ty:TypeId),ty ≠ 70→wr.heap[b]? = some (Obj.cells cur ty (0,0))→w1.heap[b]? = wr.heap[b]?:=fun b cur ty hty hb=>HG.out.block b (blk_lt hb) (fun e=>by
      obtain ⟨cells,hc⟩:=own_typed HO6.out b e.symm
      rw [hb] at hc
      injection hc with hc
      injection hc with _ h2
      exact hty h2)
     have HT7:Aside0 (TsR w1 w.heap.size (ys ++ [((⟨x.id,x.l.map (shiftSp c.off)⟩:Tr),Value.slice (some ⟨r,0,none⟩) x.l.length cp0)])):=⟨fun y hy=>by
      rcases List.mem_append.mp hy with hy | hy
      ·exact own_keep (HT5.out y hy) (fun b cur hb=>hkeep b cur 74 (by decide) hb)
      ·obtain rfl:=List.mem_singleton.mp hy
       have h9:=own_keep HO5.out (fun b cur hb=>hkeep b cur 74 (by decide) hb)
       simpa using h9⟩
     have HX7:=Aside0.mk ((hkeep _ _ 36 (by decide) HX5.out).trans HX5.out)
     have HO7:Aside0 (w1.ownsRow w.heap.size 70 3 (.slice A1' (ys ++ [((⟨x.id,x.l.map (shiftSp c.off)⟩:Tr),Value.slice (some ⟨r,0,none⟩) x.l.length cp0)]).length cp1) (ys ++ [((⟨x.id,x.l.map (shiftSp c.off)⟩:Tr),Value.slice (some ⟨r,0,none⟩) x.l.length cp0)]).length (trc (ys ++ [((⟨x.id,x.l.map (shiftSp c.off)⟩:Tr),Value.slice (some ⟨r,0,none⟩) x.l.length cp0)]))):=⟨by
      rw [trc_snoc,List.length_append]
      exact HW.out⟩
     have HM7:Aside0 ((ys ++ [((⟨x.id,x.l.map (shiftSp c.off)⟩:Tr),Value.slice (some ⟨r,0,none⟩) x.l.length cp0)]).map (·.1) = (ts.take (i + 1)).map fun x=>(⟨x.id,x.l.map (shiftSp c.off)⟩:Tr)):=⟨by
      rw [List.map_append,HM.out,HTK.out,List.map_append]
      rfl⟩
     have HL7:Aside0 ((ys ++ [((⟨x.id,x.l.map (shiftSp c.off)⟩:Tr),Value.slice (some ⟨r,0,none⟩) x.l.length cp0)]).length = i + 1):=⟨by rw [List.length_append,hyl];rfl⟩
     go_roundg (xs.length - (i + 1))
     case measure=>omega
     case rel=>exact ⟨i + 1,_,cp1,A1',by rw [HL7.out],by first | rfl | go_num,by omega,Nat.le_refl _,HM7,HL7,HO7,HT7,HB6,HX7⟩
  ·obtain rfl:i = xs.length:=by omega
   have g0:decide ((xs.length:Int) < (xs.length:Int)) = false:=by simp
   have HM9:Aside0 (ys.map (·.1) = ts.map fun x=>(⟨x.id,x.l.map (shiftSp c.off)⟩:Tr)):=⟨by rw [HM.out,HXL.out,List.take_length]⟩
   clear HM
   go_wp2_with fail
   go_returns
   exact ⟨_,by rfl,⟨ys,HM9.out,HO.out,HT.out⟩,HB.out⟩
end Go.Proofs.YtdadnapfecmmdaaGreat.P
