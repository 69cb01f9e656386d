/- Own texts of a proof about layer 55's simulate (merged): Ra. -/
import Derived.Test.YtdadnapfecmmdaaGreatXs18
import Derived.Test.YtdadnapfecmmdaaGreatXs2
import Derived.Test.YtdadnapfecmmdaaGreatXs20
namespace Go.Proofs.YtdadnapfecmmdaaGreat.P
set_option linter.unusedVariables false
set_option linter.unusedSimpArgs false
open Go.RowKit Go.Proofs.YtdadnapfecmmdaaGreatW.PrintWords Go.Proofs.YtdadnapfecmmdaaGreatW.PrintLast Go.Proofs.YtdadnapfecmmdaaGreatW.PrintMore
open Go.Proofs.YtdadnapfecmmdaaGreat.Hm
def raT.T6:Bool × List (List Nat × List Nat):=(true,[([],[]),([],[]),([0,1],[0,1]),([2],[2]),([],[]),([4],[4]),([3,5],[3,5])])
def raT.B6:List Nat:=[0,0,3,7,0,16,63]
theorem raT.tab6:rtab .any (opsOf Tryz.f10 6) = raT.T6:=by kernel_rfl
theorem raT.bits6:waitsOk raT.T6.2 raT.B6 = true:=by kernel_rfl
def raT.T8:Bool × List (List Nat × List Nat):=(true,[([],[]),([],[]),([0,1],[0,1]),([2],[2]),([],[]),([4],[4]),([3,5],[3,5])])
def raT.B8:List Nat:=[0,0,3,7,0,16,63]
theorem raT.tab8:rtab .any (opsOf Tryz.f10 8) = raT.T8:=by kernel_rfl
theorem raT.bits8:waitsOk raT.T8.2 raT.B8 = true:=by kernel_rfl
def raT.T13:Bool × List (List Nat × List Nat):=(true,[([],[]),([],[]),([],[]),([0,1,2],[0,1,2]),([],[]),([],[]),([],[]),([],[]),([6,7],[6,7]),([8],[8]),([3,4,5,9],[3,4,5,9]),([],[]),([11,10,3,0,1,2,3,4,5,6,7,8,9,10,11],[10,11])])
def raT.B13:List Nat:=[0,0,0,7,0,0,0,0,192,448,1023,0,4095]
theorem raT.tab13:rtab .any (opsOf Tryz.f10 13) = raT.T13:=by kernel_rfl
theorem raT.bits13:waitsOk raT.T13.2 raT.B13 = true:=by kernel_rfl
def raT.T15:Bool × List (List Nat × List Nat):=(true,[([],[]),([0],[0]),([1],[1]),([2],[2]),([2],[2]),([4,2],[2,4]),([3,5,2],[2,3,5]),([6,2],[2,6]),([7,2],[2,7]),([2],[2]),([9,2],[2,9]),([8,10,2],[2,8,10]),([11,2,2],[2,11]),([12],[12]),([12],[12]),([14,12],[12,14]),([13,15,12],[12,13,15]),([16,12],[12,16]),([17,12],[12,17]),([12],[12]),([19,12],[12,19]),([18,20,12],[12,18,20]),([21,12,12],[12,21]),([22],[22]),([22],[22]),([24,22],[22,24]),([23,25,22],[22,23,25]),([26,22],[22,26]),([27,22],[22,27]),([22],[22]),([29,22],[22,29]),([28,30,22],[22,28,30]),([31,22,22],[22,31]),([32],[32]),([32],[32]),([34,32],[32,34]),([33,35,32],[32,33,35]),([36,32],[32,36]),([37,32],[32,37]),([32],[32]),([39,32],[32,39]),([38,40,32],[32,38,40]),([41,32,32],[32,41]),([42],[42]),([42],[42]),([44,42],[42,44]),([43,45,42],[42,43,45]),([46,42],[42,46]),([47,42],[42,47]),([42],[42]),([49,42],[42,49]),([48,50,42],[42,48,50]),([42,51,32],[32,42,51]),([32,52,22],[22,32,52]),([22,53,12],[12,22,53]),([12,54,2],[2,12,54]),([2,55],[2,55])])
def raT.B15:List Nat:=[0,1,3,7,7,23,63,127,255,7,519,2047,4095,8191,8191,24575,65535,131071,262143,8191,532479,2097151,4194303,8388607,8388607,25165823,67108863,134217727,268435455,8388607,545259519,2147483647,4294967295,8589934591,8589934591,25769803775,68719476735,137438953471,274877906943,8589934591,558345748479,2199023255551,4398046511103,8796093022207,8796093022207,26388279066623,70368744177663,140737488355327,281474976710655,8796093022207,571746046443519,2251799813685247,4503599627370495,9007199254740991,18014398509481983,36028797018963967,72057594037927935]
theorem raT.tab15:rtab .any (opsOf Tryz.f10 15) = raT.T15:=by kernel_rfl
theorem raT.bits15:waitsOk raT.T15.2 raT.B15 = true:=by kernel_rfl
def raT.T17:Bool × List (List Nat × List Nat):=(true,[([],[]),([],[]),([],[]),([1,2],[1,2]),([0,3],[0,3]),([],[]),([5],[5]),([4,6,4],[4,6]),([],[]),([],[]),([8,9],[8,9]),([7,10,7],[7,10]),([11,11,0,1,2,3,4,5,6,7,8,9,10,11],[1,8,11])])
def raT.B17:List Nat:=[0,0,0,6,15,0,32,127,0,0,768,2047,4095]
theorem raT.tab17:rtab .any (opsOf Tryz.f10 17) = raT.T17:=by kernel_rfl
theorem raT.bits17:waitsOk raT.T17.2 raT.B17 = true:=by kernel_rfl
def insTo (seed:Int) (i:Nat) (l:List Ar) (n:Nat):List Ar:=arSort ((List.range n).map (arOne seed i)) l
theorem insTo_succ (seed:Int) (i:Nat) (l:List Ar) (n:Nat):insTo seed i l (n + 1) = arIns (arOne seed i n) (insTo seed i l n):=by
 unfold insTo
 rw [List.range_succ,List.map_append,arSort_app]
 rfl
theorem insTo_len (seed:Int) (i:Nat) (l:List Ar) (n:Nat):(insTo seed i l n).length = l.length + n:=by
 induction n with
 | zero=>rfl
 | succ n ih=>rw [insTo_succ,arIns_len,ih];rfl
theorem arL_to (seed loss rep:Int) (n:Nat) (h:arLost seed loss n = false):arL seed loss rep (n + 1) = insTo seed n (arL seed loss rep n) (if arTwice seed rep n = true then 2 else 1):=by
 rw [arL_succ];unfold arr1;rw [if_neg (by rw [h];decide)];rfl
theorem fill7 {W:World} {g:Nat} {ty:TypeId} {z0 z1 z2 z3 z4 z5 z6:Value} (h:W.heap[g]? = some (.cells #[z0,z1,z2,z3,z4,z5,z6] ty (0,0))) (v0 v1 v2 v3 v4 v5 v6:Value):(((((((W.setCell ⟨g,0,none⟩ v0).setCell ⟨g,1,none⟩ v1).setCell ⟨g,2,none⟩ v2).setCell ⟨g,3,none⟩ v3).setCell ⟨g,4,none⟩ v4).setCell ⟨g,5,none⟩ v5).setCell ⟨g,6,none⟩ v6).heap[g]? = some (.cells #[v0,v1,v2,v3,v4,v5,v6] ty (0,0)):=by
 have h0:=blk_set h 0 v0
 simp only [List.setIfInBounds_toArray,List.set_cons_zero,List.set_cons_succ] at h0
 have h1:=blk_set h0 1 v1
 simp only [List.setIfInBounds_toArray,List.set_cons_zero,List.set_cons_succ] at h1
 have h2:=blk_set h1 2 v2
 simp only [List.setIfInBounds_toArray,List.set_cons_zero,List.set_cons_succ] at h2
 have h3:=blk_set h2 3 v3
 simp only [List.setIfInBounds_toArray,List.set_cons_zero,List.set_cons_succ] at h3
 have h4:=blk_set h3 4 v4
 simp only [List.setIfInBounds_toArray,List.set_cons_zero,List.set_cons_succ] at h4
 have h5:=blk_set h4 5 v5
 simp only [List.setIfInBounds_toArray,List.set_cons_zero,List.set_cons_succ] at h5
 have h6:=blk_set h5 6 v6
 simp only [List.setIfInBounds_toArray,List.set_cons_zero,List.set_cons_succ] at h6
 exact h6
theorem below7 {W w:World} {b g:Nat} (h:Below b w W) (hg:b ≤ g) (v0 v1 v2 v3 v4 v5 v6:Value):Below b w (((((((W.setCell ⟨g,0,none⟩ v0).setCell ⟨g,1,none⟩ v1).setCell ⟨g,2,none⟩ v2).setCell ⟨g,3,none⟩ v3).setCell ⟨g,4,none⟩ v4).setCell ⟨g,5,none⟩ v5).setCell ⟨g,6,none⟩ v6):=((((((h.setCell hg _).setCell hg _).setCell hg _).setCell hg _).setCell hg _).setCell hg _).setCell hg _
set_option maxHeartbeats 8000000 in
set_option maxRecDepth 100000 in
theorem marr_of (c:Cfg) (p:CfgAt) (w:World) (hR:CfgR w p c) (L:List Fr) (hLL:L.length ≤ 10000000) (hS:∀ W,CfgR W p c→Calls Tryz.prog 9 #[c.val p] W fun e w'=>∃ v,e = .returned v∧FsOut W.heap.size w' L v∧Below W.heap.size W w'):
  Calls Tryz.prog 10 #[c.val p] w fun e w'=>∃ A cp,e = .returned (.slice A (arrive L (arL c.seed c.loss c.rep L.length)).length cp)∧FrRd w' A (arrive L (arL c.seed c.loss c.rep L.length))∧Below w.heap.size w w':=by
 have HS:=Aside0.mk hS
 clear hS
 obtain ⟨A1,c1,A2,c2,A3,c3,A4,c4⟩:=p
 have HR:=Aside0.mk hR
 have HX:=Aside0.mk (blk_new w (.cells (c.cells ⟨A1,c1,A2,c2,A3,c3,A4,c4⟩) 36))
 have HB:=Aside0.mk (below_alloc (Below.refl w.heap.size w) (.cells (c.cells ⟨A1,c1,A2,c2,A3,c3,A4,c4⟩) 36))
 clear hR
 go_enter Tryz.func10,Tryz.ntmps10
 go_upto_region 1 with fail
 generalize w.alloc (.cells (c.cells ⟨A1,c1,A2,c2,A3,c3,A4,c4⟩) 36) = v0 at HX HB ⊢
 obtain ⟨q0,q1,q2,q3,q4,q5,q6,q7,q8,q9,q10,q11⟩:=cfg12 HX.out
 go_wp2_with (go_at_call 9;refine (HS.out _ (HR.out.below HB.out)).mono ?_;rintro e wl ⟨v,rfl,hfs,hb⟩;obtain ⟨A0,cp0,rfl,hrd⟩:=hfs.reads (by omega);obtain ⟨ys,hyl,hyc,hok⟩:=hrd.rows;have HOK:=Aside0.mk hok;have HYC:=Aside0.mk hyc;have HHB:=Aside0.mk hb;have HYL:=Aside0.mk hyl;clear hfs hrd hyc hok hb q0 q1 q2 q3 q4 q5 q6 q7 q8 q9 q10 q11 hyl)
 replace HX:=Aside0.mk (blk_below HX.out HHB.out)
 replace HB:=Aside0.mk (below_step HB.out HHB.out)
 replace HR:=Aside0.mk (HR.out.below HB.out)
 clear HS HHB
 have hwl:=blk_lt HX.out
 go_loopg [4,5] L.length (fun gg s4 s5 wr=>∃ (i:Nat) (sl:List Ar) (A:Option Addr) (cp:Nat),s4 = .slice A sl.length cp∧s5 = .int .i64 (i:Int)∧i ≤ L.length∧L.length - i ≤ gg∧Aside0 (arL c.seed c.loss c.rep i = sl)∧Aside0 (Kd.R k96 96 wr wl.heap.size (fun _=>True) (.slice A sl.length cp) (sl.map (mkA ys)))∧Aside0 (Below wl.heap.size wl wr))
 case atStart=>exact ⟨0,[],none,0,by rfl,by rfl,by omega,by omega,⟨rfl⟩,⟨Kd.R_nil _ _ _ _ _⟩,⟨Below.refl _ _⟩⟩
 case round=>
  obtain ⟨i,sl,A,cp,rfl,rfl,hi,hgi,HAS,HO,HBL⟩:=hrel
  by_cases hlt:i < L.length
  ·have hz1:(i:Int) < (L.length:Int):=by omega
   have s1:IntKind.i64.wrap ((i:Int) + 1) = (i:Int) + 1:=IntWalk.i64_in _ (by omega)
   have hal:sl.length ≤ 20000000:=by rw [← HAS.out];have:=arL_len c.seed c.loss c.rep i;omega
   obtain ⟨q0,q1,q2,q3,q4,q5,q6,q7,q8,q9,q10,q11⟩:=cfg12 (blk_below HX.out HBL.out)
   have HRT:∀ a b d m:Int,0 ≤ 1:=fun _ _ _ _=>by omega
   clear HRT
   go_upto_region 6 with fail
   have s5:(rollV c.seed (i:Int) 0 5).tmod 1000000 = rollV c.seed (i:Int) 0 5 % 1000000:=roll_tmod _ _ _ _ _
   refine start_ (n:=7) (S:=fun w'=>Below wr.heap.size wr w') (ds:=[]) (bq 7 0) (by kernel_rfl) rfl rfl (Below.refl _ _).drew (fun hHeld=>?_)
   refine with_tabW raT.tab6 raT.bits6 (fun HT_ HW_=>?_)
   generalize wr.drew = wd at hHeld ⊢
   refine tk_ 0 (some 20) (bq 7 1) HT_ HW_ rfl rfl hHeld ?_ (by intro w' hS;replace q0:=below_at hS q0;replace q1:=below_at hS q1;replace q2:=below_at hS q2;replace q3:=below_at hS q3;replace q4:=below_at hS q4;replace q5:=below_at hS q5;replace q6:=below_at hS q6;replace q7:=below_at hS q7;replace q8:=below_at hS q8;replace q9:=below_at hS q9;replace q10:=below_at hS q10;replace q11:=below_at hS q11;go_simp;with_reducible rfl)
   refine pu_ 1 (some 21) (bq 7 3) HT_ rfl rfl ?_
   refine pu_ 4 (some 24) (bq 7 19) HT_ rfl rfl ?_
   refine tk_ 5 (some 25) (bq 7 51) HT_ HW_ rfl rfl hHeld ?_ (by intro w' hS;replace q10:=below_at hS q10;go_simp;with_reducible rfl)
   refine one_ (i:=2) (N:=some 22) (bq 7 55) rfl rfl (one_of HT_.out (by kernel_rfl)) (by decide) (fun K hK=>?_)
   refine goes_ Tryz.func27 (by kernel_rfl) rfl #[c.val ⟨A1,c1,A2,c2,A3,c3,A4,c4⟩,.int .i64 (i:Int),.int .i64 0,.int .i64 5] (by rfl) rfl rfl (by (try simp only [List.map_toArray,List.map_cons,List.map_nil]);first | done | rfl) ?_
   with_reducible refine (mroll_calls c ⟨A1,c1,A2,c2,A3,c3,A4,c4⟩ (i:Int) 0 5 _ (HR.out.below (below_step HBL.out hHeld))).mono ?_
   rintro e wx ⟨rfl,hb⟩
   refine ⟨_,rfl,?_⟩
   replace hHeld:=below_step hHeld hb
   clear hb
   refine hK.out _ _ hHeld (fun hHeld=>?_)
   clear hK K
   refine norm_ (a':=?_) ?_ ?_
   rotate_left
   ·show Act.put _ (some 22) _ = _
    simp only [Act.put,List.setIfInBounds_toArray,List.set_cons_zero,List.set_cons_succ,i64_w,i32_w]
    rfl
   refine pu_ 3 (some 23) (bq 7 63) HT_ rfl rfl ?_
   refine pu_ 6 (some 26) (bq 7 127) HT_ rfl rfl ?_
   refine done_ (done_of HT_.out (by kernel_rfl)) ?_
   clear s5
   have HBL0:=HBL
   replace HO:=Aside0.mk (Kd.R_below HO.out hHeld)
   replace HBL:=Aside0.mk (below_step HBL.out hHeld)
   clear hHeld HBL0 q0 q1 q2 q3 q4 q5 q6 q7 q8 q9 q10 q11
   have HLOST:Aside0 (arLost c.seed c.loss i = decide (rollV c.seed (i:Int) 0 5 % 1000000 < c.loss)):=⟨rfl⟩
   generalize rollV c.seed (i:Int) 0 5 % 1000000 = z5 at HLOST ⊢
   by_cases hlost:z5 < c.loss
   ·have hz2:decide (z5 < c.loss) = true:=decide_eq_true hlost
    replace HLOST:=Aside0.mk (HLOST.out.trans hz2)
    go_wp2_with fail
    go_roundg (L.length - (i + 1))
    case measure=>omega
    case rel=>exact ⟨i + 1,sl,A,cp,by rfl,by first | rfl | go_num,by omega,Nat.le_refl _,⟨by rw [arL_lost _ _ _ _ HLOST.out];exact HAS.out⟩,HO,HBL⟩
   ·have hz2:decide (z5 < c.loss) = false:=decide_eq_false hlost
    replace HLOST:=Aside0.mk (HLOST.out.trans hz2)
    go_upto_region 7 with fail
    iterate 8 go_step
    obtain ⟨cN,hcN⟩:∃ cN:Nat,cN = (if arTwice c.seed c.rep i = true then 2 else 1):=⟨_,rfl⟩
    have HCN:=Aside0.mk hcN
    have hc2:cN ≤ 2:=by rw [hcN];split <;> omega
    clear hcN
    go_cut [6] (fun s6 w2=>s6 = .int .i64 (cN:Int)∧Aside0 (Below wx.heap.size wx w2))
    case first=>
     obtain ⟨q0,q1,q2,q3,q4,q5,q6,q7,q8,q9,q10,q11⟩:=cfg12 (blk_below HX.out HBL.out)
     have s5:(rollV c.seed (i:Int) 0 6).tmod 1000000 = rollV c.seed (i:Int) 0 6 % 1000000:=roll_tmod _ _ _ _ _
     go_upto_region 8 with fail
     refine start_ (n:=7) (S:=fun w'=>Below wx.heap.size wx w') (ds:=[]) (bq 7 0) (by kernel_rfl) rfl rfl (Below.refl _ _).drew (fun hHeld=>?_)
     refine with_tabW raT.tab8 raT.bits8 (fun HT_ HW_=>?_)
     generalize wx.drew = wd at hHeld ⊢
     refine tk_ 0 (some 27) (bq 7 1) HT_ HW_ rfl rfl hHeld ?_ (by intro w' hS;replace q0:=below_at hS q0;replace q1:=below_at hS q1;replace q2:=below_at hS q2;replace q3:=below_at hS q3;replace q4:=below_at hS q4;replace q5:=below_at hS q5;replace q6:=below_at hS q6;replace q7:=below_at hS q7;replace q8:=below_at hS q8;replace q9:=below_at hS q9;replace q10:=below_at hS q10;replace q11:=below_at hS q11;go_simp;with_reducible rfl)
     refine pu_ 1 (some 28) (bq 7 3) HT_ rfl rfl ?_
     refine pu_ 4 (some 31) (bq 7 19) HT_ rfl rfl ?_
     refine tk_ 5 (some 32) (bq 7 51) HT_ HW_ rfl rfl hHeld ?_ (by intro w' hS;replace q11:=below_at hS q11;go_simp;with_reducible rfl)
     refine one_ (i:=2) (N:=some 29) (bq 7 55) rfl rfl (one_of HT_.out (by kernel_rfl)) (by decide) (fun K hK=>?_)
     refine goes_ Tryz.func27 (by kernel_rfl) rfl #[c.val ⟨A1,c1,A2,c2,A3,c3,A4,c4⟩,.int .i64 (i:Int),.int .i64 0,.int .i64 6] (by rfl) rfl rfl (by (try simp only [List.map_toArray,List.map_cons,List.map_nil]);first | done | rfl) ?_
     with_reducible refine (mroll_calls c ⟨A1,c1,A2,c2,A3,c3,A4,c4⟩ (i:Int) 0 6 _ (HR.out.below (below_step HBL.out hHeld))).mono ?_
     rintro e wy ⟨rfl,hb⟩
     refine ⟨_,rfl,?_⟩
     replace hHeld:=below_step hHeld hb
     clear hb
     refine hK.out _ _ hHeld (fun hHeld=>?_)
     clear hK K
     refine norm_ (a':=?_) ?_ ?_
     rotate_left
     ·show Act.put _ (some 29) _ = _
      simp only [Act.put,List.setIfInBounds_toArray,List.set_cons_zero,List.set_cons_succ,i64_w,i32_w]
      rfl
     refine pu_ 3 (some 30) (bq 7 63) HT_ rfl rfl ?_
     refine pu_ 6 (some 33) (bq 7 127) HT_ rfl rfl ?_
     refine done_ (done_of HT_.out (by kernel_rfl)) ?_
     clear s5 q0 q1 q2 q3 q4 q5 q6 q7 q8 q9 q10 q11
     have HTW:Aside0 (arTwice c.seed c.rep i = decide (rollV c.seed (i:Int) 0 6 % 1000000 < c.rep)):=⟨rfl⟩
     generalize rollV c.seed (i:Int) 0 6 % 1000000 = z6 at HTW ⊢
     have HHD:=Aside0.mk hHeld
     clear hHeld
     by_cases htw:z6 < c.rep
     ·have hz3:decide (z6 < c.rep) = true:=decide_eq_true htw
      replace HTW:=Aside0.mk (HTW.out.trans hz3)
      go_wp2_with fail
      go_meet
      exact ⟨by rw [HCN.out,if_pos HTW.out];rfl,HHD⟩
     ·have hz3:decide (z6 < c.rep) = false:=decide_eq_false htw
      replace HTW:=Aside0.mk (HTW.out.trans hz3)
      go_wp2_with fail
      go_meet
      exact ⟨by rw [HCN.out,if_neg (by rw [HTW.out];decide)];rfl,HHD⟩
    case rest=>
     obtain ⟨rfl,HW⟩:=hcut
     replace HO:=Aside0.mk (Kd.R_below HO.out HW.out)
     replace HBL:=Aside0.mk (below_step HBL.out HW.out)
     clear HW hz2 hlost
     replace HCN:Aside0 (arL c.seed c.loss c.rep (i + 1) = insTo c.seed i sl cN):=⟨by rw [HCN.out,← HAS.out];exact arL_to _ _ _ _ HLOST.out⟩
     clear HLOST HAS
     have HO0:Aside0 (insTo c.seed i sl 0 = sl):=⟨rfl⟩
     go_wp2_with fail
     go_loopg [4,7] cN (fun gg s4 s7 wr=>∃ (n:Nat) (ar:List Ar) (A:Option Addr) (cp:Nat),s4 = .slice A ar.length cp∧s7 = .int .i64 (n:Int)∧n ≤ cN∧cN - n ≤ gg∧Aside0 (insTo c.seed i sl n = ar)∧Aside0 (Kd.R k96 96 wr wl.heap.size (fun _=>True) (.slice A ar.length cp) (ar.map (mkA ys)))∧Aside0 (Below wl.heap.size wl wr))
     case atStart=>exact ⟨0,sl,A,cp,by rfl,by rfl,by omega,by omega,HO0,HO,HBL⟩
     case round=>
      clear HO0 HO HBL
      obtain ⟨n,ar,A,cp,rfl,rfl,hn,hgn,HAR,HO,HBL⟩:=hrel
      by_cases hnl:n < cN
      ·have hz4:(n:Int) < (cN:Int):=by omega
       have sn1:IntKind.i64.wrap ((n:Int) + 1) = (n:Int) + 1:=IntWalk.i64_in _ (by omega)
       have harl:ar.length ≤ 20000002:=by rw [← HAR.out,insTo_len];omega
       have HXI:Aside0 (insTo c.seed i sl (n + 1) = arIns (arOne c.seed i n) ar):=⟨by rw [insTo_succ,HAR.out]⟩
       obtain ⟨q0,q1,q2,q3,q4,q5,q6,q7,q8,q9,q10,q11⟩:=cfg12 (blk_below HX.out HBL.out)
       obtain ⟨ad,e,y0,y1,y2,y3⟩:=cells81 (Kd.C_below HYC.out HBL.out) i (by rw [HYL.out];exact hlt)
       subst e
       obtain ⟨y,hy⟩:∃ y,y = rd81 ys (i:Int):=⟨_,rfl⟩
       rw [← hy] at y0 y1 y2 y3
       have HYI:=Aside0.mk hy
       clear hy
       obtain ⟨ya,yq,⟨ysA,ysn,ysc⟩,⟨yxA,yxn,yxc⟩⟩:=y
       dsimp only at y0 y1 y2 y3
       obtain ⟨key,hkey⟩:∃ z,z = rollV c.seed (i:Int) (n:Int) 7:=⟨_,rfl⟩
       have HKY:=Aside0.mk hkey
       have HRO:=Aside0.mk (fun W h=>mroll_calls c ⟨A1,c1,A2,c2,A3,c3,A4,c4⟩ (i:Int) (n:Int) 7 W h)
       rw [← hkey] at HRO
       clear hkey
       go_upto_region 13 with fail
       refine start_ (n:=13) (S:=fun w'=>Below wr.heap.size wr w') (ds:=[12]) (bq 13 0) (by kernel_rfl) rfl rfl (Below.refl _ _).drew (fun hHeld=>?_)
       refine with_tabW raT.tab13 raT.bits13 (fun HT_ HW_=>?_)
       generalize wr.drew = wd at hHeld ⊢
       refine tk_ 0 (some 39) (bq 13 1) HT_ HW_ rfl rfl hHeld ?_ (by intro w' hS;replace q0:=below_at hS q0;replace q1:=below_at hS q1;replace q2:=below_at hS q2;replace q3:=below_at hS q3;replace q4:=below_at hS q4;replace q5:=below_at hS q5;replace q6:=below_at hS q6;replace q7:=below_at hS q7;replace q8:=below_at hS q8;replace q9:=below_at hS q9;replace q10:=below_at hS q10;replace q11:=below_at hS q11;go_simp;with_reducible rfl)
       refine pu_ 1 (some 40) (bq 13 3) HT_ rfl rfl ?_
       refine pu_ 2 (some 41) (bq 13 7) HT_ rfl rfl ?_
       refine pu_ 4 (some 43) (bq 13 23) HT_ rfl rfl ?_
       refine pu_ 5 (some 44) (bq 13 55) HT_ rfl rfl ?_
       refine pu_ 6 (some 45) (bq 13 119) HT_ rfl rfl ?_
       refine pu_ 7 (some 46) (bq 13 247) HT_ rfl rfl ?_
       refine pu_ 8 (some 47) (bq 13 503) HT_ rfl rfl ?_
       refine tk_ 9 (some 48) (bq 13 1015) HT_ HW_ rfl rfl hHeld ?_ (by intro w' hS;replace y0:=below_at hS y0;replace y1:=below_at hS y1;replace y2:=below_at hS y2;replace y3:=below_at hS y3;go_simp;with_reducible rfl)
       refine join_ (σ:=Nat) 1 (bq 13 4095) (fun s=>[(42,.int .i64 key),(49,.agg #[.int .i64 key,.int .i64 (i:Int),.int .i64 (n:Int),.int .i64 ya,.int .i64 yq,.slice ysA ysn ysc,.slice yxA yxn yxc]),(8,.pointer (some ⟨s,0,none⟩))]) (fun s w'=>Below wr.heap.size wr w'∧w'.heap[s]? = some (.cells #[.int .i64 0,.int .i64 0,.int .i64 0,.int .i64 0,.int .i64 0,.slice none 0 0,.slice none 0 0] 96 (0,0))∧wr.heap.size ≤ s) ?_ ?_
       rotate_left
       ·intro hCont
        refine two_ (i:=3) (j:=11) (Ni:=some 42) (Nj:=some 8) (bq 13 1023) (bq 13 3063) rfl rfl rfl rfl (two_of HT_.out (by kernel_rfl)) (by decide) (by decide) (fun K hK=>?_) (fun K hK=>?_)
        ·refine goes_ Tryz.func27 (by kernel_rfl) rfl #[c.val ⟨A1,c1,A2,c2,A3,c3,A4,c4⟩,.int .i64 (i:Int),.int .i64 (n:Int),.int .i64 7] (by rfl) rfl rfl (by (try simp only [List.map_toArray,List.map_cons,List.map_nil]);first | done | rfl) ?_
         with_reducible refine (HRO.out _ (HR.out.below (below_step HBL.out hHeld))).mono ?_
         rintro e wn ⟨rfl,hb⟩
         refine ⟨_,rfl,?_⟩
         replace hHeld:=below_step hHeld hb
         clear hb
         refine hK.out _ _ hHeld (fun hHeld=>?_)
         clear hK K
         refine norm_ (a':=?_) ?_ ?_
         rotate_left
         ·show Act.put _ (some 42) _ = _
          simp only [Act.put,List.setIfInBounds_toArray,List.set_cons_zero,List.set_cons_succ,i64_w,i32_w]
          rfl
         refine pu_ 10 (some 49) (bq 13 2047) HT_ rfl rfl ?_
         refine one_ (i:=11) (N:=some 8) (bq 13 4095) rfl rfl (one_of HT_.out (by kernel_rfl)) (by decide) (fun K hK=>?_)
         refine box_step ?hg (N:=8) ?hd (cs:=#[.int .i64 0,.int .i64 0,.int .i64 0,.int .i64 0,.int .i64 0,.slice none 0 0,.slice none 0 0]) (t:=96) ?hr ?_;(case hd=>rfl);(case hg=>rfl);(case hr=>first | (go_simp;done) | (go_simp;rfl))
         intro sb hsb ws hbx hb
         have hge:wr.heap.size ≤ sb:=by rw [hsb];exact hHeld.size
         clear hsb
         replace hHeld:=below_step hHeld hb
         clear hb
         refine hK.out _ _ hHeld (fun hHeld=>?_)
         clear hK K
         refine norm_ (a':=?_) ?_ ?_
         rotate_left
         ·show Act.put _ (some 8) _ = _
          simp only [Act.put,List.setIfInBounds_toArray,List.set_cons_zero,List.set_cons_succ,i64_w,i32_w]
          rfl
         exact norm_ (by simp only [putAll,Act.put,List.setIfInBounds_toArray,List.set_cons_zero,List.set_cons_succ]) (hCont sb _ ⟨hHeld,hbx,hge⟩)
        ·refine box_step ?hg (N:=8) ?hd (cs:=#[.int .i64 0,.int .i64 0,.int .i64 0,.int .i64 0,.int .i64 0,.slice none 0 0,.slice none 0 0]) (t:=96) ?hr ?_;(case hd=>rfl);(case hg=>rfl);(case hr=>first | (go_simp;done) | (go_simp;rfl))
         intro sb hsb ws hbx hb
         have hge:wr.heap.size ≤ sb:=by rw [hsb];exact hHeld.size
         clear hsb
         replace hHeld:=below_step hHeld hb
         clear hb
         refine hK.out _ _ hHeld (fun hHeld=>?_)
         clear hK K
         refine norm_ (a':=?_) ?_ ?_
         rotate_left
         ·show Act.put _ (some 8) _ = _
          simp only [Act.put,List.setIfInBounds_toArray,List.set_cons_zero,List.set_cons_succ,i64_w,i32_w]
          rfl
         refine one_ (i:=3) (N:=some 42) (bq 13 3071) rfl rfl (one_of HT_.out (by kernel_rfl)) (by decide) (fun K hK=>?_)
         refine goes_ Tryz.func27 (by kernel_rfl) rfl #[c.val ⟨A1,c1,A2,c2,A3,c3,A4,c4⟩,.int .i64 (i:Int),.int .i64 (n:Int),.int .i64 7] (by rfl) rfl rfl (by (try simp only [List.map_toArray,List.map_cons,List.map_nil]);first | done | rfl) ?_
         with_reducible refine (HRO.out _ (HR.out.below (below_step HBL.out hHeld))).mono ?_
         rintro e wn ⟨rfl,hb⟩
         refine ⟨_,rfl,?_⟩
         replace hbx:=blk_below hbx hb
         replace hHeld:=below_step hHeld hb
         clear hb
         refine hK.out _ _ hHeld (fun hHeld=>?_)
         clear hK K
         refine norm_ (a':=?_) ?_ ?_
         rotate_left
         ·show Act.put _ (some 42) _ = _
          simp only [Act.put,List.setIfInBounds_toArray,List.set_cons_zero,List.set_cons_succ,i64_w,i32_w]
          rfl
         refine pu_ 10 (some 49) (bq 13 4095) HT_ rfl rfl ?_
         exact norm_ (by simp only [putAll,Act.put,List.setIfInBounds_toArray,List.set_cons_zero,List.set_cons_succ]) (hCont sb _ ⟨hHeld,hbx,hge⟩)
       rintro gx w5 ⟨hHeld,hbx,hge⟩
       have c0:=(blk_cell hbx 0).trans rfl
       have d0:=blk_frozen hbx 0
       have hK5:=Aside0.mk hbx
       have c20:=(blk_cell hbx 0).trans rfl
       have c21:=(blk_cell hbx 1).trans rfl
       have c22:=(blk_cell hbx 2).trans rfl
       have c23:=(blk_cell hbx 3).trans rfl
       have c24:=(blk_cell hbx 4).trans rfl
       have c25:=(blk_cell hbx 5).trans rfl
       have c26:=(blk_cell hbx 6).trans rfl
       have d20:=blk_frozen hbx 0
       have d21:=blk_frozen hbx 1
       have d22:=blk_frozen hbx 2
       have d23:=blk_frozen hbx 3
       have d24:=blk_frozen hbx 4
       have d25:=blk_frozen hbx 5
       have d26:=blk_frozen hbx 6
       clear c0 d0
       refine norm_ (a':=?_) ?_ ?_
       rotate_left
       ·simp only [putAll,Act.put,List.setIfInBounds_toArray,List.set_cons_zero,List.set_cons_succ]
        rfl
       refine last_ (i:=12) (N:=none) (bq 13 8191) rfl rfl (one_of HT_.out (by kernel_rfl)) (by decide) (fun K hK=>?_)
       rw [if_pos (by rfl)]
       go_simp
       refine hK.out _ _ ?_
       clear hK K
       refine done_ (done_of HT_.out (by kernel_rfl)) ?_
       have hx7:=fill7 hK5.out (.int .i64 key) (.int .i64 (i:Int)) (.int .i64 (n:Int)) (.int .i64 ya) (.int .i64 yq) (.slice ysA ysn ysc) (.slice yxA yxn yxc)
       have hb7:=below7 hHeld hge (.int .i64 key) (.int .i64 (i:Int)) (.int .i64 (n:Int)) (.int .i64 ya) (.int .i64 yq) (.slice ysA ysn ysc) (.slice yxA yxn yxc)
       generalize (((((((w5.setCell ⟨gx,0,none⟩ (.int .i64 key)).setCell ⟨gx,1,none⟩ (.int .i64 (i:Int))).setCell ⟨gx,2,none⟩ (.int .i64 (n:Int))).setCell ⟨gx,3,none⟩ (.int .i64 ya)).setCell ⟨gx,4,none⟩ (.int .i64 yq)).setCell ⟨gx,5,none⟩ (.slice ysA ysn ysc)).setCell ⟨gx,6,none⟩ (.slice yxA yxn yxc)) = wx at hx7 hb7 ⊢
       have HXB:=Aside0.mk hx7
       replace HO:=Aside0.mk (Kd.R_below HO.out hb7)
       replace HBL:=Aside0.mk (below_step HBL.out hb7)
       clear hx7 hb7 hHeld hge hbx hK5 HRO c20 c21 c22 c23 c24 c25 c26 d20 d21 d22 d23 d24 d25 d26 q0 q1 q2 q3 q4 q5 q6 q7 q8 q9 q10 q11 y0 y1 y2 y3
       have HAO:Aside0 (mkA ys (arOne c.seed i n) = ⟨key,(i:Int),(n:Int),⟨ya,yq,⟨ysA,ysn,ysc⟩,⟨yxA,yxn,yxc⟩⟩⟩):=⟨by unfold mkA arOne;rw [← HKY.out,HYI.out]⟩
       have HAK:Aside0 ((arOne c.seed i n).key = key∧(arOne c.seed i n).idx = (i:Int)∧(arOne c.seed i n).cpy = (n:Int)):=⟨⟨HKY.out.symm,rfl,rfl⟩⟩
       clear HKY HYI
       generalize arOne c.seed i n = a at HAO HAK HXI
       obtain ⟨a0,a1,a2⟩:=a
       obtain ⟨e0,e1,e2⟩:=HAK.out
       dsimp only at e0 e1 e2
       subst e0 e1 e2
       clear HAK
       obtain ⟨kx,hkx⟩:∃ kx,kx = arAt ⟨a0,(i:Int),(n:Int)⟩ ar ar.length:=⟨_,rfl⟩
       have HKX:=Aside0.mk hkx
       have hkl:kx ≤ ar.length:=by rw [hkx];exact arAt_le _ _ _
       clear hkx
       go_upto_block 4 with fail
       go_cut [9] (fun s9 w2=>s9 = .int .i64 (kx:Int)∧Aside0 (Below wx.heap.size wx w2))
       case first=>
        have HOC:=Aside0.mk (Kd.R_reads' HO.out).2.2
        go_wp2_with fail
        go_loopg [9] ar.length (fun gg s9 w2=>∃ k:Nat,Aside0 (arAt (⟨a0,(i:Int),(n:Int)⟩:Ar) ar k = kx)∧k ≤ ar.length∧k ≤ gg∧s9 = .int .i64 (k:Int)∧Aside0 (Below wx.heap.size wx w2))
        case atStart=>exact ⟨ar.length,⟨HKX.out.symm⟩,Nat.le_refl _,Nat.le_refl _,by rfl,⟨Below.refl _ _⟩⟩
        case round=>
         obtain ⟨k,HK,hkr,hgk2,rfl,HW⟩:=hrel
         by_cases hk0:k = 0
         ·have HKK:Aside0 (kx = k):=⟨by rw [← HK.out,hk0];rfl⟩
          have hz5:decide ((0:Int) < (k:Int)) = false:=decide_eq_false (by omega)
          have hz6:¬ ((0:Int) < (k:Int)):=by omega
          have hz7:decide (0 < k) = false:=decide_eq_false (by omega)
          clear hk0
          go_upto_region 15 with fail
          refine start_ (n:=57) (S:=fun w'=>Below wr.heap.size wr w') (ds:=[]) (bq 57 0) (by kernel_rfl) rfl rfl (Below.refl _ _).drew (fun hHeld=>?_)
          refine with_tabW raT.tab15 raT.bits15 (fun HT_ HW_=>?_)
          generalize wr.drew = wd at hHeld ⊢
          refine pu_ 0 (some 52) (bq 57 1) HT_ rfl rfl ?_
          refine pu_ 1 (some 53) (bq 57 3) HT_ rfl rfl ?_
          refine pu_ 2 (some 54) (bq 57 7) HT_ rfl rfl ?_
          refine po_ 3 (some 55) (bq 57 15) HT_ rfl rfl ?_
          refine po_ 4 (some 56) (bq 57 31) HT_ rfl rfl ?_
          refine po_ 5 (some 57) (bq 57 63) HT_ rfl rfl ?_
          refine po_ 6 (some 58) (bq 57 127) HT_ rfl rfl ?_
          refine po_ 7 (some 59) (bq 57 255) HT_ rfl rfl ?_
          refine to_ 8 (some 60) (bq 57 511) HT_ HW_ rfl rfl hHeld ?_
          refine po_ 9 (some 61) (bq 57 1023) HT_ rfl rfl ?_
          refine to_ 10 (some 62) (bq 57 2047) HT_ HW_ rfl rfl hHeld ?_
          refine po_ 11 (some 63) (bq 57 4095) HT_ rfl rfl ?_
          refine po_ 12 (some 64) (bq 57 8191) HT_ rfl rfl ?_
          refine po_ 13 (some 65) (bq 57 16383) HT_ rfl rfl ?_
          refine po_ 14 (some 66) (bq 57 32767) HT_ rfl rfl ?_
          refine po_ 15 (some 67) (bq 57 65535) HT_ rfl rfl ?_
          refine po_ 16 (some 68) (bq 57 131071) HT_ rfl rfl ?_
          refine po_ 17 (some 69) (bq 57 262143) HT_ rfl rfl ?_
          refine to_ 18 (some 70) (bq 57 524287) HT_ HW_ rfl rfl hHeld ?_
          refine po_ 19 (some 71) (bq 57 1048575) HT_ rfl rfl ?_
          refine to_ 20 (some 72) (bq 57 2097151) HT_ HW_ rfl rfl hHeld ?_
          refine po_ 21 (some 73) (bq 57 4194303) HT_ rfl rfl ?_
          refine po_ 22 (some 74) (bq 57 8388607) HT_ rfl rfl ?_
          refine po_ 23 (some 75) (bq 57 16777215) HT_ rfl rfl ?_
          refine po_ 24 (some 76) (bq 57 33554431) HT_ rfl rfl ?_
          refine po_ 25 (some 77) (bq 57 67108863) HT_ rfl rfl ?_
          refine po_ 26 (some 78) (bq 57 134217727) HT_ rfl rfl ?_
          refine po_ 27 (some 79) (bq 57 268435455) HT_ rfl rfl ?_
          refine to_ 28 (some 80) (bq 57 536870911) HT_ HW_ rfl rfl hHeld ?_
          refine po_ 29 (some 81) (bq 57 1073741823) HT_ rfl rfl ?_
          refine to_ 30 (some 82) (bq 57 2147483647) HT_ HW_ rfl rfl hHeld ?_
          refine po_ 31 (some 83) (bq 57 4294967295) HT_ rfl rfl ?_
          refine po_ 32 (some 84) (bq 57 8589934591) HT_ rfl rfl ?_
          refine po_ 33 (some 85) (bq 57 17179869183) HT_ rfl rfl ?_
          refine po_ 34 (some 86) (bq 57 34359738367) HT_ rfl rfl ?_
          refine po_ 35 (some 87) (bq 57 68719476735) HT_ rfl rfl ?_
          refine po_ 36 (some 88) (bq 57 137438953471) HT_ rfl rfl ?_
          refine po_ 37 (some 89) (bq 57 274877906943) HT_ rfl rfl ?_
          refine to_ 38 (some 90) (bq 57 549755813887) HT_ HW_ rfl rfl hHeld ?_
          refine po_ 39 (some 91) (bq 57 1099511627775) HT_ rfl rfl ?_
          refine to_ 40 (some 92) (bq 57 2199023255551) HT_ HW_ rfl rfl hHeld ?_
          refine po_ 41 (some 93) (bq 57 4398046511103) HT_ rfl rfl ?_
          refine po_ 42 (some 94) (bq 57 8796093022207) HT_ rfl rfl ?_
          refine po_ 43 (some 95) (bq 57 17592186044415) HT_ rfl rfl ?_
          refine po_ 44 (some 96) (bq 57 35184372088831) HT_ rfl rfl ?_
          refine po_ 45 (some 97) (bq 57 70368744177663) HT_ rfl rfl ?_
          refine po_ 46 (some 98) (bq 57 140737488355327) HT_ rfl rfl ?_
          refine po_ 47 (some 99) (bq 57 281474976710655) HT_ rfl rfl ?_
          refine to_ 48 (some 100) (bq 57 562949953421311) HT_ HW_ rfl rfl hHeld ?_
          refine po_ 49 (some 101) (bq 57 1125899906842623) HT_ rfl rfl ?_
          refine to_ 50 (some 102) (bq 57 2251799813685247) HT_ HW_ rfl rfl hHeld ?_
          refine po_ 51 (some 103) (bq 57 4503599627370495) HT_ rfl rfl ?_
          refine po_ 52 (some 104) (bq 57 9007199254740991) HT_ rfl rfl ?_
          refine po_ 53 (some 105) (bq 57 18014398509481983) HT_ rfl rfl ?_
          refine po_ 54 (some 106) (bq 57 36028797018963967) HT_ rfl rfl ?_
          refine po_ 55 (some 107) (bq 57 72057594037927935) HT_ rfl rfl ?_
          refine pu_ 56 (some 108) (bq 57 144115188075855871) HT_ rfl rfl ?_
          refine done_ (done_of HT_.out (by kernel_rfl)) ?_
          go_wp2_with fail
          go_meet
          exact ⟨by rw [HKK.out],⟨below_step HW.out hHeld⟩⟩
         ·have hz5:decide ((0:Int) < (k:Int)) = true:=decide_eq_true (by omega)
          have hz6:(0:Int) < (k:Int):=by omega
          have hz7:decide (0 < k) = true:=decide_eq_true (by omega)
          obtain ⟨j,hj⟩:∃ j,j = k - 1:=⟨_,rfl⟩
          have hkj:k = j + 1:=by omega
          have sk:IntKind.i64.wrap ((k:Int) - 1) = (j:Int):=by rw [IntWalk.i64_in _ (by omega)];omega
          have hjl:(j:Int) < (ar.length:Int):=by omega
          have hjn:j < ar.length:=by omega
          have HGO:Aside0 (ar[j].le (⟨a0,(i:Int),(n:Int)⟩:Ar) = false→arAt (⟨a0,(i:Int),(n:Int)⟩:Ar) ar j = kx):=⟨fun h=>by rw [← arAt_go (⟨a0,(i:Int),(n:Int)⟩:Ar) ar j hjn h,← hkj];exact HK.out⟩
          have HST:Aside0 (ar[j].le (⟨a0,(i:Int),(n:Int)⟩:Ar) = true→kx = j + 1):=⟨fun h=>by rw [← arAt_stop (⟨a0,(i:Int),(n:Int)⟩:Ar) ar j hjn h,← hkj];exact HK.out.symm⟩
          have HKJ:=Aside0.mk hkj
          obtain ⟨a3,e,p0,p1,p2,-,-,-,-⟩:=cells96 HOC.out j (by rw [List.length_map];exact hjn)
          subst e
          rw [rd96_map ys ar j hjn] at p0 p1 p2
          unfold mkA at p0 p1 p2
          dsimp only at p0 p1 p2
          have HLE:Aside0 (ar[j].le (⟨a0,(i:Int),(n:Int)⟩:Ar) = decide (ar[j].key < a0 ∨ ar[j].key = a0∧(ar[j].idx < (i:Int) ∨ ar[j].idx = (i:Int)∧ar[j].cpy ≤ (n:Int)))):=⟨rfl⟩
          generalize ar[j] = y at p0 p1 p2 HLE HGO HST
          obtain ⟨b0,b1,b2⟩:=y
          dsimp only at p0 p1 p2 HLE
          replace p0:=below_at HW.out p0
          replace p1:=below_at HW.out p1
          replace p2:=below_at HW.out p2
          have g0:wr.cell? ⟨gx,0,none⟩ = some (.int .i64 a0):=(blk_cell (blk_below HXB.out HW.out) 0).trans rfl
          have g1:wr.cell? ⟨gx,1,none⟩ = some (.int .i64 (i:Int)):=(blk_cell (blk_below HXB.out HW.out) 1).trans rfl
          have g2:wr.cell? ⟨gx,2,none⟩ = some (.int .i64 (n:Int)):=(blk_cell (blk_below HXB.out HW.out) 2).trans rfl
          clear hj hkj hjn
          have hjk:j < k:=by rw [HKJ.out];exact Nat.lt_succ_self j
          by_cases h1:a0 < b0
          ·have HG:Aside0 (arAt (⟨a0,(i:Int),(n:Int)⟩:Ar) ar j = kx):=⟨HGO.out (by rw [HLE.out];exact decide_eq_false (by omega))⟩
           have f1:decide (a0 < b0) = true:=decide_eq_true (by omega)
           have F1:(a0 < b0) = True:=eq_true (by omega)
           clear HGO HST HLE
           go_upto_region 15 with fail
           refine start_ (n:=57) (S:=fun w'=>Below wr.heap.size wr w') (ds:=[]) (bq 57 0) (by kernel_rfl) rfl rfl (Below.refl _ _).drew (fun hHeld=>?_)
           refine with_tabW raT.tab15 raT.bits15 (fun HT_ HW_=>?_)
           generalize wr.drew = wd at hHeld ⊢
           refine pu_ 0 (some 52) (bq 57 1) HT_ rfl rfl ?_
           refine pu_ 1 (some 53) (bq 57 3) HT_ rfl rfl ?_
           refine pu_ 2 (some 54) (bq 57 7) HT_ rfl rfl ?_
           refine pu_ 3 (some 55) (bq 57 15) HT_ rfl rfl ?_
           refine pu_ 4 (some 56) (bq 57 31) HT_ rfl rfl ?_
           refine pu_ 5 (some 57) (bq 57 63) HT_ rfl rfl ?_
           refine pu_ 6 (some 58) (bq 57 127) HT_ rfl rfl ?_
           refine pu_ 7 (some 59) (bq 57 255) HT_ rfl rfl ?_
           refine tk_ 8 (some 60) (bq 57 511) HT_ HW_ rfl rfl hHeld ?_ (by intro w' hS;replace p0:=below_at hS p0;go_simp;with_reducible rfl)
           refine pu_ 9 (some 61) (bq 57 1023) HT_ rfl rfl ?_
           refine tk_ 10 (some 62) (bq 57 2047) HT_ HW_ rfl rfl hHeld ?_ (by intro w' hS;replace g0:=below_at hS g0;go_simp;with_reducible rfl)
           refine pu_ 11 (some 63) (bq 57 4095) HT_ rfl rfl ?_
           refine pu_ 12 (some 64) (bq 57 8191) HT_ rfl rfl ?_
           refine po_ 13 (some 65) (bq 57 16383) HT_ rfl rfl ?_
           refine po_ 14 (some 66) (bq 57 32767) HT_ rfl rfl ?_
           refine po_ 15 (some 67) (bq 57 65535) HT_ rfl rfl ?_
           refine po_ 16 (some 68) (bq 57 131071) HT_ rfl rfl ?_
           refine po_ 17 (some 69) (bq 57 262143) HT_ rfl rfl ?_
           refine to_ 18 (some 70) (bq 57 524287) HT_ HW_ rfl rfl hHeld ?_
           refine po_ 19 (some 71) (bq 57 1048575) HT_ rfl rfl ?_
           refine to_ 20 (some 72) (bq 57 2097151) HT_ HW_ rfl rfl hHeld ?_
           refine po_ 21 (some 73) (bq 57 4194303) HT_ rfl rfl ?_
           refine po_ 22 (some 74) (bq 57 8388607) HT_ rfl rfl ?_
           refine po_ 23 (some 75) (bq 57 16777215) HT_ rfl rfl ?_
           refine po_ 24 (some 76) (bq 57 33554431) HT_ rfl rfl ?_
           refine po_ 25 (some 77) (bq 57 67108863) HT_ rfl rfl ?_
           refine po_ 26 (some 78) (bq 57 134217727) HT_ rfl rfl ?_
           refine po_ 27 (some 79) (bq 57 268435455) HT_ rfl rfl ?_
           refine to_ 28 (some 80) (bq 57 536870911) HT_ HW_ rfl rfl hHeld ?_
           refine po_ 29 (some 81) (bq 57 1073741823) HT_ rfl rfl ?_
           refine to_ 30 (some 82) (bq 57 2147483647) HT_ HW_ rfl rfl hHeld ?_
           refine po_ 31 (some 83) (bq 57 4294967295) HT_ rfl rfl ?_
           refine po_ 32 (some 84) (bq 57 8589934591) HT_ rfl rfl ?_
           refine po_ 33 (some 85) (bq 57 17179869183) HT_ rfl rfl ?_
           refine po_ 34 (some 86) (bq 57 34359738367) HT_ rfl rfl ?_
           refine po_ 35 (some 87) (bq 57 68719476735) HT_ rfl rfl ?_
           refine po_ 36 (some 88) (bq 57 137438953471) HT_ rfl rfl ?_
           refine po_ 37 (some 89) (bq 57 274877906943) HT_ rfl rfl ?_
           refine to_ 38 (some 90) (bq 57 549755813887) HT_ HW_ rfl rfl hHeld ?_
           refine po_ 39 (some 91) (bq 57 1099511627775) HT_ rfl rfl ?_
           refine to_ 40 (some 92) (bq 57 2199023255551) HT_ HW_ rfl rfl hHeld ?_
           refine po_ 41 (some 93) (bq 57 4398046511103) HT_ rfl rfl ?_
           refine po_ 42 (some 94) (bq 57 8796093022207) HT_ rfl rfl ?_
           refine po_ 43 (some 95) (bq 57 17592186044415) HT_ rfl rfl ?_
           refine po_ 44 (some 96) (bq 57 35184372088831) HT_ rfl rfl ?_
           refine po_ 45 (some 97) (bq 57 70368744177663) HT_ rfl rfl ?_
           refine po_ 46 (some 98) (bq 57 140737488355327) HT_ rfl rfl ?_
           refine po_ 47 (some 99) (bq 57 281474976710655) HT_ rfl rfl ?_
           refine to_ 48 (some 100) (bq 57 562949953421311) HT_ HW_ rfl rfl hHeld ?_
           refine po_ 49 (some 101) (bq 57 1125899906842623) HT_ rfl rfl ?_
           refine to_ 50 (some 102) (bq 57 2251799813685247) HT_ HW_ rfl rfl hHeld ?_
           refine po_ 51 (some 103) (bq 57 4503599627370495) HT_ rfl rfl ?_
           refine po_ 52 (some 104) (bq 57 9007199254740991) HT_ rfl rfl ?_
           refine po_ 53 (some 105) (bq 57 18014398509481983) HT_ rfl rfl ?_
           refine po_ 54 (some 106) (bq 57 36028797018963967) HT_ rfl rfl ?_
           refine pu_ 55 (some 107) (bq 57 72057594037927935) HT_ rfl rfl ?_
           refine pu_ 56 (some 108) (bq 57 144115188075855871) HT_ rfl rfl ?_
           refine done_ (done_of HT_.out (by kernel_rfl)) ?_
           go_wp2_with fail
           go_roundg j
           case measure=>omega
           case rel=>exact ⟨j,HG,by omega,Nat.le_refl _,by first | rfl | go_num,⟨below_step HW.out hHeld⟩⟩
          by_cases h2:a0 = b0
          ·subst h2
           by_cases h3:(i:Int) < b1
           ·have HG:Aside0 (arAt (⟨a0,(i:Int),(n:Int)⟩:Ar) ar j = kx):=⟨HGO.out (by rw [HLE.out];exact decide_eq_false (by omega))⟩
            have f1:decide (a0 < a0) = false:=decide_eq_false (by omega)
            have F1:(a0 < a0) = False:=eq_false (by omega)
            have f2:(a0 == a0) = true:=by exact beq_iff_eq.mpr (by omega)
            have f3:decide ((i:Int) < b1) = true:=decide_eq_true (by omega)
            have F3:((i:Int) < b1) = True:=eq_true (by omega)
            clear HGO HST HLE
            go_upto_region 15 with fail
            refine start_ (n:=57) (S:=fun w'=>Below wr.heap.size wr w') (ds:=[]) (bq 57 0) (by kernel_rfl) rfl rfl (Below.refl _ _).drew (fun hHeld=>?_)
            refine with_tabW raT.tab15 raT.bits15 (fun HT_ HW_=>?_)
            generalize wr.drew = wd at hHeld ⊢
            refine pu_ 0 (some 52) (bq 57 1) HT_ rfl rfl ?_
            refine pu_ 1 (some 53) (bq 57 3) HT_ rfl rfl ?_
            refine pu_ 2 (some 54) (bq 57 7) HT_ rfl rfl ?_
            refine pu_ 3 (some 55) (bq 57 15) HT_ rfl rfl ?_
            refine pu_ 4 (some 56) (bq 57 31) HT_ rfl rfl ?_
            refine pu_ 5 (some 57) (bq 57 63) HT_ rfl rfl ?_
            refine pu_ 6 (some 58) (bq 57 127) HT_ rfl rfl ?_
            refine pu_ 7 (some 59) (bq 57 255) HT_ rfl rfl ?_
            refine tk_ 8 (some 60) (bq 57 511) HT_ HW_ rfl rfl hHeld ?_ (by intro w' hS;replace p0:=below_at hS p0;go_simp;with_reducible rfl)
            refine pu_ 9 (some 61) (bq 57 1023) HT_ rfl rfl ?_
            refine tk_ 10 (some 62) (bq 57 2047) HT_ HW_ rfl rfl hHeld ?_ (by intro w' hS;replace g0:=below_at hS g0;go_simp;with_reducible rfl)
            refine pu_ 11 (some 63) (bq 57 4095) HT_ rfl rfl ?_
            refine pu_ 12 (some 64) (bq 57 8191) HT_ rfl rfl ?_
            refine pu_ 13 (some 65) (bq 57 16383) HT_ rfl rfl ?_
            refine pu_ 14 (some 66) (bq 57 32767) HT_ rfl rfl ?_
            refine pu_ 15 (some 67) (bq 57 65535) HT_ rfl rfl ?_
            refine pu_ 16 (some 68) (bq 57 131071) HT_ rfl rfl ?_
            refine pu_ 17 (some 69) (bq 57 262143) HT_ rfl rfl ?_
            refine tk_ 18 (some 70) (bq 57 524287) HT_ HW_ rfl rfl hHeld ?_ (by intro w' hS;replace p0:=below_at hS p0;go_simp;with_reducible rfl)
            refine pu_ 19 (some 71) (bq 57 1048575) HT_ rfl rfl ?_
            refine tk_ 20 (some 72) (bq 57 2097151) HT_ HW_ rfl rfl hHeld ?_ (by intro w' hS;replace g0:=below_at hS g0;go_simp;with_reducible rfl)
            refine pu_ 21 (some 73) (bq 57 4194303) HT_ rfl rfl ?_
            refine pu_ 22 (some 74) (bq 57 8388607) HT_ rfl rfl ?_
            refine pu_ 23 (some 75) (bq 57 16777215) HT_ rfl rfl ?_
            refine pu_ 24 (some 76) (bq 57 33554431) HT_ rfl rfl ?_
            refine pu_ 25 (some 77) (bq 57 67108863) HT_ rfl rfl ?_
            refine pu_ 26 (some 78) (bq 57 134217727) HT_ rfl rfl ?_
            refine pu_ 27 (some 79) (bq 57 268435455) HT_ rfl rfl ?_
            refine tk_ 28 (some 80) (bq 57 536870911) HT_ HW_ rfl rfl hHeld ?_ (by intro w' hS;replace p1:=below_at hS p1;go_simp;with_reducible rfl)
            refine pu_ 29 (some 81) (bq 57 1073741823) HT_ rfl rfl ?_
            refine tk_ 30 (some 82) (bq 57 2147483647) HT_ HW_ rfl rfl hHeld ?_ (by intro w' hS;replace g1:=below_at hS g1;go_simp;with_reducible rfl)
            refine pu_ 31 (some 83) (bq 57 4294967295) HT_ rfl rfl ?_
            refine pu_ 32 (some 84) (bq 57 8589934591) HT_ rfl rfl ?_
            refine po_ 33 (some 85) (bq 57 17179869183) HT_ rfl rfl ?_
            refine po_ 34 (some 86) (bq 57 34359738367) HT_ rfl rfl ?_
            refine po_ 35 (some 87) (bq 57 68719476735) HT_ rfl rfl ?_
            refine po_ 36 (some 88) (bq 57 137438953471) HT_ rfl rfl ?_
            refine po_ 37 (some 89) (bq 57 274877906943) HT_ rfl rfl ?_
            refine to_ 38 (some 90) (bq 57 549755813887) HT_ HW_ rfl rfl hHeld ?_
            refine po_ 39 (some 91) (bq 57 1099511627775) HT_ rfl rfl ?_
            refine to_ 40 (some 92) (bq 57 2199023255551) HT_ HW_ rfl rfl hHeld ?_
            refine po_ 41 (some 93) (bq 57 4398046511103) HT_ rfl rfl ?_
            refine po_ 42 (some 94) (bq 57 8796093022207) HT_ rfl rfl ?_
            refine po_ 43 (some 95) (bq 57 17592186044415) HT_ rfl rfl ?_
            refine po_ 44 (some 96) (bq 57 35184372088831) HT_ rfl rfl ?_
            refine po_ 45 (some 97) (bq 57 70368744177663) HT_ rfl rfl ?_
            refine po_ 46 (some 98) (bq 57 140737488355327) HT_ rfl rfl ?_
            refine po_ 47 (some 99) (bq 57 281474976710655) HT_ rfl rfl ?_
            refine to_ 48 (some 100) (bq 57 562949953421311) HT_ HW_ rfl rfl hHeld ?_
            refine po_ 49 (some 101) (bq 57 1125899906842623) HT_ rfl rfl ?_
            refine to_ 50 (some 102) (bq 57 2251799813685247) HT_ HW_ rfl rfl hHeld ?_
            refine po_ 51 (some 103) (bq 57 4503599627370495) HT_ rfl rfl ?_
            refine po_ 52 (some 104) (bq 57 9007199254740991) HT_ rfl rfl ?_
            refine pu_ 53 (some 105) (bq 57 18014398509481983) HT_ rfl rfl ?_
            refine pu_ 54 (some 106) (bq 57 36028797018963967) HT_ rfl rfl ?_
            refine pu_ 55 (some 107) (bq 57 72057594037927935) HT_ rfl rfl ?_
            refine pu_ 56 (some 108) (bq 57 144115188075855871) HT_ rfl rfl ?_
            refine done_ (done_of HT_.out (by kernel_rfl)) ?_
            go_wp2_with fail
            go_roundg j
            case measure=>omega
            case rel=>exact ⟨j,HG,by omega,Nat.le_refl _,by first | rfl | go_num,⟨below_step HW.out hHeld⟩⟩
           by_cases h4:(i:Int) = b1
           ·subst h4
            by_cases h5:(n:Int) < b2
            ·have HG:Aside0 (arAt (⟨a0,(i:Int),(n:Int)⟩:Ar) ar j = kx):=⟨HGO.out (by rw [HLE.out];exact decide_eq_false (by omega))⟩
             have f1:decide (a0 < a0) = false:=decide_eq_false (by omega)
             have F1:(a0 < a0) = False:=eq_false (by omega)
             have f2:(a0 == a0) = true:=by exact beq_iff_eq.mpr (by omega)
             have f3:decide ((i:Int) < (i:Int)) = false:=decide_eq_false (by omega)
             have F3:((i:Int) < (i:Int)) = False:=eq_false (by omega)
             have f4:((i:Int) == (i:Int)) = true:=by exact beq_iff_eq.mpr (by omega)
             have f5:decide ((n:Int) < b2) = true:=decide_eq_true (by omega)
             have F5:((n:Int) < b2) = True:=eq_true (by omega)
             clear HGO HST HLE
             go_upto_region 15 with fail
             refine start_ (n:=57) (S:=fun w'=>Below wr.heap.size wr w') (ds:=[]) (bq 57 0) (by kernel_rfl) rfl rfl (Below.refl _ _).drew (fun hHeld=>?_)
             refine with_tabW raT.tab15 raT.bits15 (fun HT_ HW_=>?_)
             generalize wr.drew = wd at hHeld ⊢
             refine pu_ 0 (some 52) (bq 57 1) HT_ rfl rfl ?_
             refine pu_ 1 (some 53) (bq 57 3) HT_ rfl rfl ?_
             refine pu_ 2 (some 54) (bq 57 7) HT_ rfl rfl ?_
             refine pu_ 3 (some 55) (bq 57 15) HT_ rfl rfl ?_
             refine pu_ 4 (some 56) (bq 57 31) HT_ rfl rfl ?_
             refine pu_ 5 (some 57) (bq 57 63) HT_ rfl rfl ?_
             refine pu_ 6 (some 58) (bq 57 127) HT_ rfl rfl ?_
             refine pu_ 7 (some 59) (bq 57 255) HT_ rfl rfl ?_
             refine tk_ 8 (some 60) (bq 57 511) HT_ HW_ rfl rfl hHeld ?_ (by intro w' hS;replace p0:=below_at hS p0;go_simp;with_reducible rfl)
             refine pu_ 9 (some 61) (bq 57 1023) HT_ rfl rfl ?_
             refine tk_ 10 (some 62) (bq 57 2047) HT_ HW_ rfl rfl hHeld ?_ (by intro w' hS;replace g0:=below_at hS g0;go_simp;with_reducible rfl)
             refine pu_ 11 (some 63) (bq 57 4095) HT_ rfl rfl ?_
             refine pu_ 12 (some 64) (bq 57 8191) HT_ rfl rfl ?_
             refine pu_ 13 (some 65) (bq 57 16383) HT_ rfl rfl ?_
             refine pu_ 14 (some 66) (bq 57 32767) HT_ rfl rfl ?_
             refine pu_ 15 (some 67) (bq 57 65535) HT_ rfl rfl ?_
             refine pu_ 16 (some 68) (bq 57 131071) HT_ rfl rfl ?_
             refine pu_ 17 (some 69) (bq 57 262143) HT_ rfl rfl ?_
             refine tk_ 18 (some 70) (bq 57 524287) HT_ HW_ rfl rfl hHeld ?_ (by intro w' hS;replace p0:=below_at hS p0;go_simp;with_reducible rfl)
             refine pu_ 19 (some 71) (bq 57 1048575) HT_ rfl rfl ?_
             refine tk_ 20 (some 72) (bq 57 2097151) HT_ HW_ rfl rfl hHeld ?_ (by intro w' hS;replace g0:=below_at hS g0;go_simp;with_reducible rfl)
             refine pu_ 21 (some 73) (bq 57 4194303) HT_ rfl rfl ?_
             refine pu_ 22 (some 74) (bq 57 8388607) HT_ rfl rfl ?_
             refine pu_ 23 (some 75) (bq 57 16777215) HT_ rfl rfl ?_
             refine pu_ 24 (some 76) (bq 57 33554431) HT_ rfl rfl ?_
             refine pu_ 25 (some 77) (bq 57 67108863) HT_ rfl rfl ?_
             refine pu_ 26 (some 78) (bq 57 134217727) HT_ rfl rfl ?_
             refine pu_ 27 (some 79) (bq 57 268435455) HT_ rfl rfl ?_
             refine tk_ 28 (some 80) (bq 57 536870911) HT_ HW_ rfl rfl hHeld ?_ (by intro w' hS;replace p1:=below_at hS p1;go_simp;with_reducible rfl)
             refine pu_ 29 (some 81) (bq 57 1073741823) HT_ rfl rfl ?_
             refine tk_ 30 (some 82) (bq 57 2147483647) HT_ HW_ rfl rfl hHeld ?_ (by intro w' hS;replace g1:=below_at hS g1;go_simp;with_reducible rfl)
             refine pu_ 31 (some 83) (bq 57 4294967295) HT_ rfl rfl ?_
             refine pu_ 32 (some 84) (bq 57 8589934591) HT_ rfl rfl ?_
             refine pu_ 33 (some 85) (bq 57 17179869183) HT_ rfl rfl ?_
             refine pu_ 34 (some 86) (bq 57 34359738367) HT_ rfl rfl ?_
             refine pu_ 35 (some 87) (bq 57 68719476735) HT_ rfl rfl ?_
             refine pu_ 36 (some 88) (bq 57 137438953471) HT_ rfl rfl ?_
             refine pu_ 37 (some 89) (bq 57 274877906943) HT_ rfl rfl ?_
             refine tk_ 38 (some 90) (bq 57 549755813887) HT_ HW_ rfl rfl hHeld ?_ (by intro w' hS;replace p1:=below_at hS p1;go_simp;with_reducible rfl)
             refine pu_ 39 (some 91) (bq 57 1099511627775) HT_ rfl rfl ?_
             refine tk_ 40 (some 92) (bq 57 2199023255551) HT_ HW_ rfl rfl hHeld ?_ (by intro w' hS;replace g1:=below_at hS g1;go_simp;with_reducible rfl)
             refine pu_ 41 (some 93) (bq 57 4398046511103) HT_ rfl rfl ?_
             refine pu_ 42 (some 94) (bq 57 8796093022207) HT_ rfl rfl ?_
             refine pu_ 43 (some 95) (bq 57 17592186044415) HT_ rfl rfl ?_
             refine pu_ 44 (some 96) (bq 57 35184372088831) HT_ rfl rfl ?_
             refine pu_ 45 (some 97) (bq 57 70368744177663) HT_ rfl rfl ?_
             refine pu_ 46 (some 98) (bq 57 140737488355327) HT_ rfl rfl ?_
             refine pu_ 47 (some 99) (bq 57 281474976710655) HT_ rfl rfl ?_
             refine tk_ 48 (some 100) (bq 57 562949953421311) HT_ HW_ rfl rfl hHeld ?_ (by intro w' hS;replace p2:=below_at hS p2;go_simp;with_reducible rfl)
             refine pu_ 49 (some 101) (bq 57 1125899906842623) HT_ rfl rfl ?_
             refine tk_ 50 (some 102) (bq 57 2251799813685247) HT_ HW_ rfl rfl hHeld ?_ (by intro w' hS;replace g2:=below_at hS g2;go_simp;with_reducible rfl)
             refine pu_ 51 (some 103) (bq 57 4503599627370495) HT_ rfl rfl ?_
             refine pu_ 52 (some 104) (bq 57 9007199254740991) HT_ rfl rfl ?_
             refine pu_ 53 (some 105) (bq 57 18014398509481983) HT_ rfl rfl ?_
             refine pu_ 54 (some 106) (bq 57 36028797018963967) HT_ rfl rfl ?_
             refine pu_ 55 (some 107) (bq 57 72057594037927935) HT_ rfl rfl ?_
             refine pu_ 56 (some 108) (bq 57 144115188075855871) HT_ rfl rfl ?_
             refine done_ (done_of HT_.out (by kernel_rfl)) ?_
             go_wp2_with fail
             go_roundg j
             case measure=>omega
             case rel=>exact ⟨j,HG,by omega,Nat.le_refl _,by first | rfl | go_num,⟨below_step HW.out hHeld⟩⟩
            ·have HKK:Aside0 (kx = k):=⟨by rw [HKJ.out];exact HST.out (by rw [HLE.out];exact decide_eq_true (by omega))⟩
             have f1:decide (a0 < a0) = false:=decide_eq_false (by omega)
             have F1:(a0 < a0) = False:=eq_false (by omega)
             have f2:(a0 == a0) = true:=by exact beq_iff_eq.mpr (by omega)
             have f3:decide ((i:Int) < (i:Int)) = false:=decide_eq_false (by omega)
             have F3:((i:Int) < (i:Int)) = False:=eq_false (by omega)
             have f4:((i:Int) == (i:Int)) = true:=by exact beq_iff_eq.mpr (by omega)
             have f5:decide ((n:Int) < b2) = false:=decide_eq_false (by omega)
             have F5:((n:Int) < b2) = False:=eq_false (by omega)
             clear HGO HST HLE
             go_upto_region 15 with fail
             refine start_ (n:=57) (S:=fun w'=>Below wr.heap.size wr w') (ds:=[]) (bq 57 0) (by kernel_rfl) rfl rfl (Below.refl _ _).drew (fun hHeld=>?_)
             refine with_tabW raT.tab15 raT.bits15 (fun HT_ HW_=>?_)
             generalize wr.drew = wd at hHeld ⊢
             refine pu_ 0 (some 52) (bq 57 1) HT_ rfl rfl ?_
             refine pu_ 1 (some 53) (bq 57 3) HT_ rfl rfl ?_
             refine pu_ 2 (some 54) (bq 57 7) HT_ rfl rfl ?_
             refine pu_ 3 (some 55) (bq 57 15) HT_ rfl rfl ?_
             refine pu_ 4 (some 56) (bq 57 31) HT_ rfl rfl ?_
             refine pu_ 5 (some 57) (bq 57 63) HT_ rfl rfl ?_
             refine pu_ 6 (some 58) (bq 57 127) HT_ rfl rfl ?_
             refine pu_ 7 (some 59) (bq 57 255) HT_ rfl rfl ?_
             refine tk_ 8 (some 60) (bq 57 511) HT_ HW_ rfl rfl hHeld ?_ (by intro w' hS;replace p0:=below_at hS p0;go_simp;with_reducible rfl)
             refine pu_ 9 (some 61) (bq 57 1023) HT_ rfl rfl ?_
             refine tk_ 10 (some 62) (bq 57 2047) HT_ HW_ rfl rfl hHeld ?_ (by intro w' hS;replace g0:=below_at hS g0;go_simp;with_reducible rfl)
             refine pu_ 11 (some 63) (bq 57 4095) HT_ rfl rfl ?_
             refine pu_ 12 (some 64) (bq 57 8191) HT_ rfl rfl ?_
             refine pu_ 13 (some 65) (bq 57 16383) HT_ rfl rfl ?_
             refine pu_ 14 (some 66) (bq 57 32767) HT_ rfl rfl ?_
             refine pu_ 15 (some 67) (bq 57 65535) HT_ rfl rfl ?_
             refine pu_ 16 (some 68) (bq 57 131071) HT_ rfl rfl ?_
             refine pu_ 17 (some 69) (bq 57 262143) HT_ rfl rfl ?_
             refine tk_ 18 (some 70) (bq 57 524287) HT_ HW_ rfl rfl hHeld ?_ (by intro w' hS;replace p0:=below_at hS p0;go_simp;with_reducible rfl)
             refine pu_ 19 (some 71) (bq 57 1048575) HT_ rfl rfl ?_
             refine tk_ 20 (some 72) (bq 57 2097151) HT_ HW_ rfl rfl hHeld ?_ (by intro w' hS;replace g0:=below_at hS g0;go_simp;with_reducible rfl)
             refine pu_ 21 (some 73) (bq 57 4194303) HT_ rfl rfl ?_
             refine pu_ 22 (some 74) (bq 57 8388607) HT_ rfl rfl ?_
             refine pu_ 23 (some 75) (bq 57 16777215) HT_ rfl rfl ?_
             refine pu_ 24 (some 76) (bq 57 33554431) HT_ rfl rfl ?_
             refine pu_ 25 (some 77) (bq 57 67108863) HT_ rfl rfl ?_
             refine pu_ 26 (some 78) (bq 57 134217727) HT_ rfl rfl ?_
             refine pu_ 27 (some 79) (bq 57 268435455) HT_ rfl rfl ?_
             refine tk_ 28 (some 80) (bq 57 536870911) HT_ HW_ rfl rfl hHeld ?_ (by intro w' hS;replace p1:=below_at hS p1;go_simp;with_reducible rfl)
             refine pu_ 29 (some 81) (bq 57 1073741823) HT_ rfl rfl ?_
             refine tk_ 30 (some 82) (bq 57 2147483647) HT_ HW_ rfl rfl hHeld ?_ (by intro w' hS;replace g1:=below_at hS g1;go_simp;with_reducible rfl)
             refine pu_ 31 (some 83) (bq 57 4294967295) HT_ rfl rfl ?_
             refine pu_ 32 (some 84) (bq 57 8589934591) HT_ rfl rfl ?_
             refine pu_ 33 (some 85) (bq 57 17179869183) HT_ rfl rfl ?_
             refine pu_ 34 (some 86) (bq 57 34359738367) HT_ rfl rfl ?_
             refine pu_ 35 (some 87) (bq 57 68719476735) HT_ rfl rfl ?_
             refine pu_ 36 (some 88) (bq 57 137438953471) HT_ rfl rfl ?_
             refine pu_ 37 (some 89) (bq 57 274877906943) HT_ rfl rfl ?_
             refine tk_ 38 (some 90) (bq 57 549755813887) HT_ HW_ rfl rfl hHeld ?_ (by intro w' hS;replace p1:=below_at hS p1;go_simp;with_reducible rfl)
             refine pu_ 39 (some 91) (bq 57 1099511627775) HT_ rfl rfl ?_
             refine tk_ 40 (some 92) (bq 57 2199023255551) HT_ HW_ rfl rfl hHeld ?_ (by intro w' hS;replace g1:=below_at hS g1;go_simp;with_reducible rfl)
             refine pu_ 41 (some 93) (bq 57 4398046511103) HT_ rfl rfl ?_
             refine pu_ 42 (some 94) (bq 57 8796093022207) HT_ rfl rfl ?_
             refine pu_ 43 (some 95) (bq 57 17592186044415) HT_ rfl rfl ?_
             refine pu_ 44 (some 96) (bq 57 35184372088831) HT_ rfl rfl ?_
             refine pu_ 45 (some 97) (bq 57 70368744177663) HT_ rfl rfl ?_
             refine pu_ 46 (some 98) (bq 57 140737488355327) HT_ rfl rfl ?_
             refine pu_ 47 (some 99) (bq 57 281474976710655) HT_ rfl rfl ?_
             refine tk_ 48 (some 100) (bq 57 562949953421311) HT_ HW_ rfl rfl hHeld ?_ (by intro w' hS;replace p2:=below_at hS p2;go_simp;with_reducible rfl)
             refine pu_ 49 (some 101) (bq 57 1125899906842623) HT_ rfl rfl ?_
             refine tk_ 50 (some 102) (bq 57 2251799813685247) HT_ HW_ rfl rfl hHeld ?_ (by intro w' hS;replace g2:=below_at hS g2;go_simp;with_reducible rfl)
             refine pu_ 51 (some 103) (bq 57 4503599627370495) HT_ rfl rfl ?_
             refine pu_ 52 (some 104) (bq 57 9007199254740991) HT_ rfl rfl ?_
             refine pu_ 53 (some 105) (bq 57 18014398509481983) HT_ rfl rfl ?_
             refine pu_ 54 (some 106) (bq 57 36028797018963967) HT_ rfl rfl ?_
             refine pu_ 55 (some 107) (bq 57 72057594037927935) HT_ rfl rfl ?_
             refine pu_ 56 (some 108) (bq 57 144115188075855871) HT_ rfl rfl ?_
             refine done_ (done_of HT_.out (by kernel_rfl)) ?_
             go_wp2_with fail
             go_meet
             exact ⟨by rw [HKK.out],⟨below_step HW.out hHeld⟩⟩
           ·have HKK:Aside0 (kx = k):=⟨by rw [HKJ.out];exact HST.out (by rw [HLE.out];exact decide_eq_true (by omega))⟩
            have f1:decide (a0 < a0) = false:=decide_eq_false (by omega)
            have F1:(a0 < a0) = False:=eq_false (by omega)
            have f2:(a0 == a0) = true:=by exact beq_iff_eq.mpr (by omega)
            have f3:decide ((i:Int) < b1) = false:=decide_eq_false (by omega)
            have F3:((i:Int) < b1) = False:=eq_false (by omega)
            have f4:(b1 == (i:Int)) = false:=by exact beq_eq_false_iff_ne.mpr (by omega)
            clear HGO HST HLE
            go_upto_region 15 with fail
            refine start_ (n:=57) (S:=fun w'=>Below wr.heap.size wr w') (ds:=[]) (bq 57 0) (by kernel_rfl) rfl rfl (Below.refl _ _).drew (fun hHeld=>?_)
            refine with_tabW raT.tab15 raT.bits15 (fun HT_ HW_=>?_)
            generalize wr.drew = wd at hHeld ⊢
            refine pu_ 0 (some 52) (bq 57 1) HT_ rfl rfl ?_
            refine pu_ 1 (some 53) (bq 57 3) HT_ rfl rfl ?_
            refine pu_ 2 (some 54) (bq 57 7) HT_ rfl rfl ?_
            refine pu_ 3 (some 55) (bq 57 15) HT_ rfl rfl ?_
            refine pu_ 4 (some 56) (bq 57 31) HT_ rfl rfl ?_
            refine pu_ 5 (some 57) (bq 57 63) HT_ rfl rfl ?_
            refine pu_ 6 (some 58) (bq 57 127) HT_ rfl rfl ?_
            refine pu_ 7 (some 59) (bq 57 255) HT_ rfl rfl ?_
            refine tk_ 8 (some 60) (bq 57 511) HT_ HW_ rfl rfl hHeld ?_ (by intro w' hS;replace p0:=below_at hS p0;go_simp;with_reducible rfl)
            refine pu_ 9 (some 61) (bq 57 1023) HT_ rfl rfl ?_
            refine tk_ 10 (some 62) (bq 57 2047) HT_ HW_ rfl rfl hHeld ?_ (by intro w' hS;replace g0:=below_at hS g0;go_simp;with_reducible rfl)
            refine pu_ 11 (some 63) (bq 57 4095) HT_ rfl rfl ?_
            refine pu_ 12 (some 64) (bq 57 8191) HT_ rfl rfl ?_
            refine pu_ 13 (some 65) (bq 57 16383) HT_ rfl rfl ?_
            refine pu_ 14 (some 66) (bq 57 32767) HT_ rfl rfl ?_
            refine pu_ 15 (some 67) (bq 57 65535) HT_ rfl rfl ?_
            refine pu_ 16 (some 68) (bq 57 131071) HT_ rfl rfl ?_
            refine pu_ 17 (some 69) (bq 57 262143) HT_ rfl rfl ?_
            refine tk_ 18 (some 70) (bq 57 524287) HT_ HW_ rfl rfl hHeld ?_ (by intro w' hS;replace p0:=below_at hS p0;go_simp;with_reducible rfl)
            refine pu_ 19 (some 71) (bq 57 1048575) HT_ rfl rfl ?_
            refine tk_ 20 (some 72) (bq 57 2097151) HT_ HW_ rfl rfl hHeld ?_ (by intro w' hS;replace g0:=below_at hS g0;go_simp;with_reducible rfl)
            refine pu_ 21 (some 73) (bq 57 4194303) HT_ rfl rfl ?_
            refine pu_ 22 (some 74) (bq 57 8388607) HT_ rfl rfl ?_
            refine pu_ 23 (some 75) (bq 57 16777215) HT_ rfl rfl ?_
            refine pu_ 24 (some 76) (bq 57 33554431) HT_ rfl rfl ?_
            refine pu_ 25 (some 77) (bq 57 67108863) HT_ rfl rfl ?_
            refine pu_ 26 (some 78) (bq 57 134217727) HT_ rfl rfl ?_
            refine pu_ 27 (some 79) (bq 57 268435455) HT_ rfl rfl ?_
            refine tk_ 28 (some 80) (bq 57 536870911) HT_ HW_ rfl rfl hHeld ?_ (by intro w' hS;replace p1:=below_at hS p1;go_simp;with_reducible rfl)
            refine pu_ 29 (some 81) (bq 57 1073741823) HT_ rfl rfl ?_
            refine tk_ 30 (some 82) (bq 57 2147483647) HT_ HW_ rfl rfl hHeld ?_ (by intro w' hS;replace g1:=below_at hS g1;go_simp;with_reducible rfl)
            refine pu_ 31 (some 83) (bq 57 4294967295) HT_ rfl rfl ?_
            refine pu_ 32 (some 84) (bq 57 8589934591) HT_ rfl rfl ?_
            refine pu_ 33 (some 85) (bq 57 17179869183) HT_ rfl rfl ?_
            refine pu_ 34 (some 86) (bq 57 34359738367) HT_ rfl rfl ?_
            refine pu_ 35 (some 87) (bq 57 68719476735) HT_ rfl rfl ?_
            refine pu_ 36 (some 88) (bq 57 137438953471) HT_ rfl rfl ?_
            refine pu_ 37 (some 89) (bq 57 274877906943) HT_ rfl rfl ?_
            refine tk_ 38 (some 90) (bq 57 549755813887) HT_ HW_ rfl rfl hHeld ?_ (by intro w' hS;replace p1:=below_at hS p1;go_simp;with_reducible rfl)
            refine pu_ 39 (some 91) (bq 57 1099511627775) HT_ rfl rfl ?_
            refine tk_ 40 (some 92) (bq 57 2199023255551) HT_ HW_ rfl rfl hHeld ?_ (by intro w' hS;replace g1:=below_at hS g1;go_simp;with_reducible rfl)
            refine pu_ 41 (some 93) (bq 57 4398046511103) HT_ rfl rfl ?_
            refine pu_ 42 (some 94) (bq 57 8796093022207) HT_ rfl rfl ?_
            refine po_ 43 (some 95) (bq 57 17592186044415) HT_ rfl rfl ?_
            refine po_ 44 (some 96) (bq 57 35184372088831) HT_ rfl rfl ?_
            refine po_ 45 (some 97) (bq 57 70368744177663) HT_ rfl rfl ?_
            refine po_ 46 (some 98) (bq 57 140737488355327) HT_ rfl rfl ?_
            refine po_ 47 (some 99) (bq 57 281474976710655) HT_ rfl rfl ?_
            refine to_ 48 (some 100) (bq 57 562949953421311) HT_ HW_ rfl rfl hHeld ?_
            refine po_ 49 (some 101) (bq 57 1125899906842623) HT_ rfl rfl ?_
            refine to_ 50 (some 102) (bq 57 2251799813685247) HT_ HW_ rfl rfl hHeld ?_
            refine po_ 51 (some 103) (bq 57 4503599627370495) HT_ rfl rfl ?_
            refine pu_ 52 (some 104) (bq 57 9007199254740991) HT_ rfl rfl ?_
            refine pu_ 53 (some 105) (bq 57 18014398509481983) HT_ rfl rfl ?_
            refine pu_ 54 (some 106) (bq 57 36028797018963967) HT_ rfl rfl ?_
            refine pu_ 55 (some 107) (bq 57 72057594037927935) HT_ rfl rfl ?_
            refine pu_ 56 (some 108) (bq 57 144115188075855871) HT_ rfl rfl ?_
            refine done_ (done_of HT_.out (by kernel_rfl)) ?_
            go_wp2_with fail
            go_meet
            exact ⟨by rw [HKK.out],⟨below_step HW.out hHeld⟩⟩
          ·have HKK:Aside0 (kx = k):=⟨by rw [HKJ.out];exact HST.out (by rw [HLE.out];exact decide_eq_true (by omega))⟩
           have f1:decide (a0 < b0) = false:=decide_eq_false (by omega)
           have F1:(a0 < b0) = False:=eq_false (by omega)
           have f2:(b0 == a0) = false:=by exact beq_eq_false_iff_ne.mpr (by omega)
           clear HGO HST HLE
           go_upto_region 15 with fail
           refine start_ (n:=57) (S:=fun w'=>Below wr.heap.size wr w') (ds:=[]) (bq 57 0) (by kernel_rfl) rfl rfl (Below.refl _ _).drew (fun hHeld=>?_)
           refine with_tabW raT.tab15 raT.bits15 (fun HT_ HW_=>?_)
           generalize wr.drew = wd at hHeld ⊢
           refine pu_ 0 (some 52) (bq 57 1) HT_ rfl rfl ?_
           refine pu_ 1 (some 53) (bq 57 3) HT_ rfl rfl ?_
           refine pu_ 2 (some 54) (bq 57 7) HT_ rfl rfl ?_
           refine pu_ 3 (some 55) (bq 57 15) HT_ rfl rfl ?_
           refine pu_ 4 (some 56) (bq 57 31) HT_ rfl rfl ?_
           refine pu_ 5 (some 57) (bq 57 63) HT_ rfl rfl ?_
           refine pu_ 6 (some 58) (bq 57 127) HT_ rfl rfl ?_
           refine pu_ 7 (some 59) (bq 57 255) HT_ rfl rfl ?_
           refine tk_ 8 (some 60) (bq 57 511) HT_ HW_ rfl rfl hHeld ?_ (by intro w' hS;replace p0:=below_at hS p0;go_simp;with_reducible rfl)
           refine pu_ 9 (some 61) (bq 57 1023) HT_ rfl rfl ?_
           refine tk_ 10 (some 62) (bq 57 2047) HT_ HW_ rfl rfl hHeld ?_ (by intro w' hS;replace g0:=below_at hS g0;go_simp;with_reducible rfl)
           refine pu_ 11 (some 63) (bq 57 4095) HT_ rfl rfl ?_
           refine pu_ 12 (some 64) (bq 57 8191) HT_ rfl rfl ?_
           refine pu_ 13 (some 65) (bq 57 16383) HT_ rfl rfl ?_
           refine pu_ 14 (some 66) (bq 57 32767) HT_ rfl rfl ?_
           refine pu_ 15 (some 67) (bq 57 65535) HT_ rfl rfl ?_
           refine pu_ 16 (some 68) (bq 57 131071) HT_ rfl rfl ?_
           refine pu_ 17 (some 69) (bq 57 262143) HT_ rfl rfl ?_
           refine tk_ 18 (some 70) (bq 57 524287) HT_ HW_ rfl rfl hHeld ?_ (by intro w' hS;replace p0:=below_at hS p0;go_simp;with_reducible rfl)
           refine pu_ 19 (some 71) (bq 57 1048575) HT_ rfl rfl ?_
           refine tk_ 20 (some 72) (bq 57 2097151) HT_ HW_ rfl rfl hHeld ?_ (by intro w' hS;replace g0:=below_at hS g0;go_simp;with_reducible rfl)
           refine pu_ 21 (some 73) (bq 57 4194303) HT_ rfl rfl ?_
           refine pu_ 22 (some 74) (bq 57 8388607) HT_ rfl rfl ?_
           refine po_ 23 (some 75) (bq 57 16777215) HT_ rfl rfl ?_
           refine po_ 24 (some 76) (bq 57 33554431) HT_ rfl rfl ?_
           refine po_ 25 (some 77) (bq 57 67108863) HT_ rfl rfl ?_
           refine po_ 26 (some 78) (bq 57 134217727) HT_ rfl rfl ?_
           refine po_ 27 (some 79) (bq 57 268435455) HT_ rfl rfl ?_
           refine to_ 28 (some 80) (bq 57 536870911) HT_ HW_ rfl rfl hHeld ?_
           refine po_ 29 (some 81) (bq 57 1073741823) HT_ rfl rfl ?_
           refine to_ 30 (some 82) (bq 57 2147483647) HT_ HW_ rfl rfl hHeld ?_
           refine po_ 31 (some 83) (bq 57 4294967295) HT_ rfl rfl ?_
           refine po_ 32 (some 84) (bq 57 8589934591) HT_ rfl rfl ?_
           refine po_ 33 (some 85) (bq 57 17179869183) HT_ rfl rfl ?_
           refine po_ 34 (some 86) (bq 57 34359738367) HT_ rfl rfl ?_
           refine po_ 35 (some 87) (bq 57 68719476735) HT_ rfl rfl ?_
           refine po_ 36 (some 88) (bq 57 137438953471) HT_ rfl rfl ?_
           refine po_ 37 (some 89) (bq 57 274877906943) HT_ rfl rfl ?_
           refine to_ 38 (some 90) (bq 57 549755813887) HT_ HW_ rfl rfl hHeld ?_
           refine po_ 39 (some 91) (bq 57 1099511627775) HT_ rfl rfl ?_
           refine to_ 40 (some 92) (bq 57 2199023255551) HT_ HW_ rfl rfl hHeld ?_
           refine po_ 41 (some 93) (bq 57 4398046511103) HT_ rfl rfl ?_
           refine po_ 42 (some 94) (bq 57 8796093022207) HT_ rfl rfl ?_
           refine po_ 43 (some 95) (bq 57 17592186044415) HT_ rfl rfl ?_
           refine po_ 44 (some 96) (bq 57 35184372088831) HT_ rfl rfl ?_
           refine po_ 45 (some 97) (bq 57 70368744177663) HT_ rfl rfl ?_
           refine po_ 46 (some 98) (bq 57 140737488355327) HT_ rfl rfl ?_
           refine po_ 47 (some 99) (bq 57 281474976710655) HT_ rfl rfl ?_
           refine to_ 48 (some 100) (bq 57 562949953421311) HT_ HW_ rfl rfl hHeld ?_
           refine po_ 49 (some 101) (bq 57 1125899906842623) HT_ rfl rfl ?_
           refine to_ 50 (some 102) (bq 57 2251799813685247) HT_ HW_ rfl rfl hHeld ?_
           refine po_ 51 (some 103) (bq 57 4503599627370495) HT_ rfl rfl ?_
           refine po_ 52 (some 104) (bq 57 9007199254740991) HT_ rfl rfl ?_
           refine po_ 53 (some 105) (bq 57 18014398509481983) HT_ rfl rfl ?_
           refine pu_ 54 (some 106) (bq 57 36028797018963967) HT_ rfl rfl ?_
           refine pu_ 55 (some 107) (bq 57 72057594037927935) HT_ rfl rfl ?_
           refine pu_ 56 (some 108) (bq 57 144115188075855871) HT_ rfl rfl ?_
           refine done_ (done_of HT_.out (by kernel_rfl)) ?_
           go_wp2_with fail
           go_meet
           exact ⟨by rw [HKK.out],⟨below_step HW.out hHeld⟩⟩
       case rest=>
        obtain ⟨rfl,HW⟩:=hcut
        replace HO:=Aside0.mk (Kd.R_below HO.out HW.out)
        replace HBL:=Aside0.mk (below_step HBL.out HW.out)
        replace HXB:=Aside0.mk (blk_below HXB.out HW.out)
        clear HW
        have HIN:Aside0 ((arIns (⟨a0,(i:Int),(n:Int)⟩:Ar) ar).map (mkA ys) = (ar.map (mkA ys)).take kx ++ [(⟨a0,(i:Int),(n:Int),⟨ya,yq,⟨ysA,ysn,ysc⟩,⟨yxA,yxn,yxc⟩⟩⟩:S96)] ++ (ar.map (mkA ys)).drop kx):=⟨by
         unfold arIns
         rw [← HKX.out,List.map_append,List.map_cons,List.map_take,List.map_drop,HAO.out,List.append_assoc]
         rfl⟩
        have HLR:Aside0 ((arIns (⟨a0,(i:Int),(n:Int)⟩:Ar) ar).length = ar.length + 1):=⟨arIns_len _ _⟩
        clear HKX HAO
        have hxl:(ar.map (mkA ys)).length = ar.length:=List.length_map _
        rw [← hxl] at HO
        have HXL:=Aside0.mk hxl
        have hkl2:kx ≤ (ar.map (mkA ys)).length:=by rw [hxl];exact hkl
        have hxb:(ar.map (mkA ys)).length ≤ 20000002:=by rw [hxl];exact harl
        rw [← hxl]
        clear hxl harl hkl
        generalize ar.map (mkA ys) = xs at HO HIN hkl2 hxb HXL ⊢
        have hc3:xs.length ≤ cp:=(Kd.R_reads' HO.out).2.1
        have g0:wc.cell? ⟨gx,0,none⟩ = some (.int .i64 a0):=(blk_cell HXB.out 0).trans rfl
        have g1:wc.cell? ⟨gx,1,none⟩ = some (.int .i64 (i:Int)):=(blk_cell HXB.out 1).trans rfl
        have g2:wc.cell? ⟨gx,2,none⟩ = some (.int .i64 (n:Int)):=(blk_cell HXB.out 2).trans rfl
        have g3:wc.cell? ⟨gx,3,none⟩ = some (.int .i64 ya):=(blk_cell HXB.out 3).trans rfl
        have g4:wc.cell? ⟨gx,4,none⟩ = some (.int .i64 yq):=(blk_cell HXB.out 4).trans rfl
        have g5:wc.cell? ⟨gx,5,none⟩ = some (.slice ysA ysn ysc):=(blk_cell HXB.out 5).trans rfl
        have g6:wc.cell? ⟨gx,6,none⟩ = some (.slice yxA yxn yxc):=(blk_cell HXB.out 6).trans rfl
        obtain ⟨i0,hi0,_,hsz,_⟩:=info_parts info96
        have hK0:(0:Int) ≤ (kx:Int):=by omega
        have hK1:(kx:Int) ≤ (xs.length:Int):=by omega
        have hcutA:=cut_to (P:=Tryz.prog) 94 96 .i64 Tryz.underlying94 hi0 A xs.length cp (kx:Int) hK0 hK1 hc3
        have hcutB:=cut_from (P:=Tryz.prog) 94 96 .i64 Tryz.underlying94 hi0 7 hsz A xs.length cp (kx:Int) hK0 hK1
        rw [Int.toNat_natCast] at hcutA hcutB
        have hdrop:=Kd.C_drop (m:=kx) (Kd.R_reads' HO.out).2.2 hkl2 hc3
        rw [List.length_drop] at hdrop
        have htake:=Kd.C_take (m:=kx) (Kd.R_reads' HO.out).2.2 hkl2
        rw [show (xs.take kx).length = kx from by rw [List.length_take];omega] at htake
        have hsz6:k96.sz = 7:=rfl
        rw [hsz6] at hdrop
        obtain ⟨A4',hA4⟩:∃ A4',A4' = (if cp = kx then A else A.map (·.add (kx * 7))):=⟨_,rfl⟩
        rw [← hA4] at hcutB hdrop
        have HD:=Aside0.mk hdrop
        have HT:=Aside0.mk htake
        clear hdrop htake hA4 hi0 hsz
        have HX7:Aside0 (∀ W,k96.M W wc.heap.size (fun _=>False) ⟨a0,(i:Int),(n:Int),⟨ya,yq,⟨ysA,ysn,ysc⟩,⟨yxA,yxn,yxc⟩⟩⟩ [.int .i64 a0,.int .i64 (i:Int),.int .i64 (n:Int),.int .i64 ya,.int .i64 yq,.slice ysA ysn ysc,.slice yxA yxn yxc]):=⟨fun W=>k96_mkM W _ _ ⟨a0,(i:Int),(n:Int),⟨ya,yq,⟨ysA,ysn,ysc⟩,⟨yxA,yxn,yxc⟩⟩⟩⟩
        have HWB:=Aside0.mk HBL.out.size
        have HLEN:Aside0 ((xs.take kx).length = kx):=⟨by rw [List.length_take];omega⟩
        have HLEN2:Aside0 ((xs.drop kx).length = xs.length - kx):=⟨by rw [List.length_drop]⟩
        clear hsz6
        go_upto_region 17 with fail
        refine start_ (n:=13) (S:=fun w'=>Below wc.heap.size wc w') (ds:=[]) (bq 13 0) (by kernel_rfl) rfl rfl (Below.refl _ _).drew (fun hHeld=>?_)
        refine with_tabW raT.tab17 raT.bits17 (fun HT_ HW_=>?_)
        generalize wc.drew = wd at hHeld ⊢
        refine pu_ 1 (some 112) (bq 13 2) HT_ rfl rfl ?_
        refine pu_ 2 (some 113) (bq 13 6) HT_ rfl rfl ?_
        refine pu_ 3 (some 114) (bq 13 14) HT_ rfl rfl ?_
        refine tk_ 5 (some 116) (bq 13 46) HT_ HW_ rfl rfl hHeld ?_ (by intro w' hS;replace g0:=below_at hS g0;replace g1:=below_at hS g1;replace g2:=below_at hS g2;replace g3:=below_at hS g3;replace g4:=below_at hS g4;replace g5:=below_at hS g5;replace g6:=below_at hS g6;go_simp;with_reducible rfl)
        refine pu_ 8 (some 119) (bq 13 302) HT_ rfl rfl ?_
        refine pu_ 9 (some 120) (bq 13 814) HT_ rfl rfl ?_
        refine pu_ 10 (some 121) (bq 13 1838) HT_ rfl rfl ?_
        refine join_ (σ:=Value × Value × Value) 3 (bq 13 1919) (fun s=>[(111,s.1),(115,s.2.1),(117,s.2.2)]) (fun s w'=>Below wc.heap.size wc w'∧Kd.R k96 96 w' wc.heap.size (fun _=>True) s.2.1 (xs.take kx)∧∃ A c,s.2.2 = .slice A 1 c∧Kd.C k96 w' A 1 [(⟨a0,(i:Int),(n:Int),⟨ya,yq,⟨ysA,ysn,ysc⟩,⟨yxA,yxn,yxc⟩⟩⟩:S96)]) ?_ ?_
        rotate_left
        ·intro hCont
         refine two_ (i:=0) (j:=6) (Ni:=some 111) (Nj:=some 117) (bq 13 1839) (bq 13 1902) rfl rfl rfl rfl (two_of HT_.out (by kernel_rfl)) (by decide) (by decide) (fun K hK=>?_) (fun K hK=>?_)
         ·refine Kd.R_lit_step k96 (w0:=wc) wc.heap.size 96 (by rfl) (N:=111) rfl (xs:=([]:List S96)) (inner:=[]) (ok:=fun _=>True) (okp:=fun _=>False) (by go_simp) (Reps.none _ _) (fun _ h=>h.elim) trivial hHeld hHeld.size (by simp) ?_
          intro v45 W45 hr45 hb45 hg45 ho45
          refine hK.out _ _ hb45 (fun hHeld=>?_)
          clear hK K
          refine norm_ (a':=?_) ?_ ?_
          rotate_left
          ·show Act.put _ (some 111) _ = _
           simp only [Act.put,List.setIfInBounds_toArray,List.set_cons_zero,List.set_cons_succ,i64_w,i32_w]
           rfl
          refine two_ (i:=4) (j:=6) (Ni:=some 115) (Nj:=some 117) (bq 13 1855) (bq 13 1903) rfl rfl rfl rfl (two_of HT_.out (by kernel_rfl)) (by decide) (by decide) (fun K hK=>?_) (fun K hK=>?_)
          ·refine Kd.R_append_rows_step k96 (Rr:=k96.K _) (w0:=wc) wc.heap.size (by rfl) (.tmp 111) (.tmp 114) 94 96 _ 88 rfl Tryz.underlying94 info96 rfl (by decide) (by decide) v45 [] (xs.take kx) A kx cp (fun _=>True) (fun _=>False) (by rfl) (by rfl) hr45 (by exact Kd.C_below HT.out hHeld) (fun x cs h=>k96_KM h) (fun _ h=>h.elim) (fun _ _=>trivial) hHeld hHeld.size (by simp;omega) ?_
           intro v49 W49 hr49 hb49 hg49 ho49
           refine hK.out _ _ hb49 (fun hHeld=>?_)
           clear hK K
           refine norm_ (a':=?_) ?_ ?_
           rotate_left
           ·show Act.put _ (some 115) _ = _
            simp only [Act.put,List.setIfInBounds_toArray,List.set_cons_zero,List.set_cons_succ,i64_w,i32_w]
            rfl
           refine one_ (i:=6) (N:=some 117) (bq 13 1919) rfl rfl (one_of HT_.out (by kernel_rfl)) (by decide) (fun K hK=>?_)
           refine Kd.R_lit_step k96 (w0:=wc) wc.heap.size 96 (by rfl) (N:=117) rfl (xs:=[(⟨a0,(i:Int),(n:Int),⟨ya,yq,⟨ysA,ysn,ysc⟩,⟨yxA,yxn,yxc⟩⟩⟩:S96)]) (inner:=[.int .i64 a0,.int .i64 (i:Int),.int .i64 (n:Int),.int .i64 ya,.int .i64 yq,.slice ysA ysn ysc,.slice yxA yxn yxc]) (ok:=fun _=>True) (okp:=fun _=>False) (by go_simp) ((Reps.none _ _).snoc (HX7.out _) rfl) (fun _ h=>h.elim) trivial hHeld hHeld.size (by simp) ?_
           intro v54 W54 hr54 hb54 hg54 ho54
           replace hr49:=Kd.R_grown hr49 hg54 (fun k _=>by simp)
           refine hK.out _ _ hb54 (fun hHeld=>?_)
           clear hK K
           refine norm_ (a':=?_) ?_ ?_
           rotate_left
           ·show Act.put _ (some 117) _ = _
            simp only [Act.put,List.setIfInBounds_toArray,List.set_cons_zero,List.set_cons_succ,i64_w,i32_w]
            rfl
           obtain ⟨A5,c5,e5,_,hc5⟩:=Kd.R_reads hr54
           exact norm_ (by simp only [putAll,Act.put,List.setIfInBounds_toArray,List.set_cons_zero,List.set_cons_succ]) (hCont (v45,v49,v54) _ ⟨hHeld,hr49,A5,c5,e5,hc5⟩)
          ·refine Kd.R_lit_step k96 (w0:=wc) wc.heap.size 96 (by rfl) (N:=117) rfl (xs:=[(⟨a0,(i:Int),(n:Int),⟨ya,yq,⟨ysA,ysn,ysc⟩,⟨yxA,yxn,yxc⟩⟩⟩:S96)]) (inner:=[.int .i64 a0,.int .i64 (i:Int),.int .i64 (n:Int),.int .i64 ya,.int .i64 yq,.slice ysA ysn ysc,.slice yxA yxn yxc]) (ok:=fun _=>True) (okp:=fun _=>False) (by go_simp) ((Reps.none _ _).snoc (HX7.out _) rfl) (fun _ h=>h.elim) trivial hHeld hHeld.size (by simp) ?_
           intro v54 W54 hr54 hb54 hg54 ho54
           have hn54:∀ k,some k = v54.ownBlock→some k ≠ v45.ownBlock:=fun k hk=>by
            obtain ⟨b,e1,e2⟩:=ho54
            rw [e1] at hk
            injection hk with hk
            intro e
            have:=Kd.R_lt' hr45 k e.symm
            omega
           replace hr45:=Kd.R_grown hr45 hg54 (fun k _=>by simp)
           refine hK.out _ _ hb54 (fun hHeld=>?_)
           clear hK K
           refine norm_ (a':=?_) ?_ ?_
           rotate_left
           ·show Act.put _ (some 117) _ = _
            simp only [Act.put,List.setIfInBounds_toArray,List.set_cons_zero,List.set_cons_succ,i64_w,i32_w]
            rfl
           refine one_ (i:=4) (N:=some 115) (bq 13 1919) rfl rfl (one_of HT_.out (by kernel_rfl)) (by decide) (fun K hK=>?_)
           refine Kd.R_append_rows_step k96 (Rr:=k96.K _) (w0:=wc) wc.heap.size (by rfl) (.tmp 111) (.tmp 114) 94 96 _ 88 rfl Tryz.underlying94 info96 rfl (by decide) (by decide) v45 [] (xs.take kx) A kx cp (fun _=>True) (fun _=>False) (by rfl) (by rfl) hr45 (by exact Kd.C_below HT.out hHeld) (fun x cs h=>k96_KM h) (fun _ h=>h.elim) (fun _ _=>trivial) hHeld hHeld.size (by simp;omega) ?_
           intro v49 W49 hr49 hb49 hg49 ho49
           replace hr54:=Kd.R_other96 hr54 hg49 hn54
           refine hK.out _ _ hb49 (fun hHeld=>?_)
           clear hK K
           refine norm_ (a':=?_) ?_ ?_
           rotate_left
           ·show Act.put _ (some 115) _ = _
            simp only [Act.put,List.setIfInBounds_toArray,List.set_cons_zero,List.set_cons_succ,i64_w,i32_w]
            rfl
           obtain ⟨A5,c5,e5,_,hc5⟩:=Kd.R_reads hr54
           exact norm_ (by simp only [putAll,Act.put,List.setIfInBounds_toArray,List.set_cons_zero,List.set_cons_succ]) (hCont (v45,v49,v54) _ ⟨hHeld,hr49,A5,c5,e5,hc5⟩)
         ·refine Kd.R_lit_step k96 (w0:=wc) wc.heap.size 96 (by rfl) (N:=117) rfl (xs:=[(⟨a0,(i:Int),(n:Int),⟨ya,yq,⟨ysA,ysn,ysc⟩,⟨yxA,yxn,yxc⟩⟩⟩:S96)]) (inner:=[.int .i64 a0,.int .i64 (i:Int),.int .i64 (n:Int),.int .i64 ya,.int .i64 yq,.slice ysA ysn ysc,.slice yxA yxn yxc]) (ok:=fun _=>True) (okp:=fun _=>False) (by go_simp) ((Reps.none _ _).snoc (HX7.out _) rfl) (fun _ h=>h.elim) trivial hHeld hHeld.size (by simp) ?_
          intro v54 W54 hr54 hb54 hg54 ho54
          refine hK.out _ _ hb54 (fun hHeld=>?_)
          clear hK K
          refine norm_ (a':=?_) ?_ ?_
          rotate_left
          ·show Act.put _ (some 117) _ = _
           simp only [Act.put,List.setIfInBounds_toArray,List.set_cons_zero,List.set_cons_succ,i64_w,i32_w]
           rfl
          refine one_ (i:=0) (N:=some 111) (bq 13 1903) rfl rfl (one_of HT_.out (by kernel_rfl)) (by decide) (fun K hK=>?_)
          refine Kd.R_lit_step k96 (w0:=wc) wc.heap.size 96 (by rfl) (N:=111) rfl (xs:=([]:List S96)) (inner:=[]) (ok:=fun _=>True) (okp:=fun _=>False) (by go_simp) (Reps.none _ _) (fun _ h=>h.elim) trivial hHeld hHeld.size (by simp) ?_
          intro v45 W45 hr45 hb45 hg45 ho45
          have hn54:∀ k,some k = v54.ownBlock→some k ≠ v45.ownBlock:=fun k hk=>by
           obtain ⟨b,e1,e2⟩:=ho45
           have:=Kd.R_lt' hr54 k hk.symm
           rw [e1]
           intro e
           injection e with e
           omega
          replace hr54:=Kd.R_grown hr54 hg45 (fun k _=>by simp)
          refine hK.out _ _ hb45 (fun hHeld=>?_)
          clear hK K
          refine norm_ (a':=?_) ?_ ?_
          rotate_left
          ·show Act.put _ (some 111) _ = _
           simp only [Act.put,List.setIfInBounds_toArray,List.set_cons_zero,List.set_cons_succ,i64_w,i32_w]
           rfl
          refine one_ (i:=4) (N:=some 115) (bq 13 1919) rfl rfl (one_of HT_.out (by kernel_rfl)) (by decide) (fun K hK=>?_)
          refine Kd.R_append_rows_step k96 (Rr:=k96.K _) (w0:=wc) wc.heap.size (by rfl) (.tmp 111) (.tmp 114) 94 96 _ 88 rfl Tryz.underlying94 info96 rfl (by decide) (by decide) v45 [] (xs.take kx) A kx cp (fun _=>True) (fun _=>False) (by rfl) (by rfl) hr45 (by exact Kd.C_below HT.out hHeld) (fun x cs h=>k96_KM h) (fun _ h=>h.elim) (fun _ _=>trivial) hHeld hHeld.size (by simp;omega) ?_
          intro v49 W49 hr49 hb49 hg49 ho49
          replace hr54:=Kd.R_other96 hr54 hg49 hn54
          refine hK.out _ _ hb49 (fun hHeld=>?_)
          clear hK K
          refine norm_ (a':=?_) ?_ ?_
          rotate_left
          ·show Act.put _ (some 115) _ = _
           simp only [Act.put,List.setIfInBounds_toArray,List.set_cons_zero,List.set_cons_succ,i64_w,i32_w]
           rfl
          obtain ⟨A5,c5,e5,_,hc5⟩:=Kd.R_reads hr54
          exact norm_ (by simp only [putAll,Act.put,List.setIfInBounds_toArray,List.set_cons_zero,List.set_cons_succ]) (hCont (v45,v49,v54) _ ⟨hHeld,hr49,A5,c5,e5,hc5⟩)
        rintro ⟨v45,v49,v54⟩ w5 ⟨hHeld,hr49,A5,c5,e5,hc5⟩
        dsimp only at hr49 e5
        subst e5
        have hC5:=Aside0.mk hc5
        clear hc5
        refine norm_ (a':=?_) ?_ ?_
        rotate_left
        ·simp only [putAll,Act.put,List.setIfInBounds_toArray,List.set_cons_zero,List.set_cons_succ]
         rfl
        refine one_ (i:=7) (N:=some 118) (bq 13 2047) rfl rfl (one_of HT_.out (by kernel_rfl)) (by decide) (fun K hK=>?_)
        refine Kd.R_append_rows_step k96 (Rr:=k96.K _) (w0:=wc) wc.heap.size (by rfl) (.tmp 115) (.tmp 117) 94 96 _ 88 rfl Tryz.underlying94 info96 rfl (by decide) (by decide) v49 (xs.take kx) [(⟨a0,(i:Int),(n:Int),⟨ya,yq,⟨ysA,ysn,ysc⟩,⟨yxA,yxn,yxc⟩⟩⟩:S96)] A5 1 c5 (fun _=>True) (fun _=>False) (by rfl) (by rfl) hr49 (by exact hC5.out) (fun x cs h=>k96_KM h) (fun _ h=>h.elim) (fun _ _=>trivial) hHeld hHeld.size (by rw [HLEN.out];omega) ?_
        intro v55 W55 hr55 hb55 hg55 ho55
        refine hK.out _ _ hb55 (fun hHeld=>?_)
        clear hK K
        refine norm_ (a':=?_) ?_ ?_
        rotate_left
        ·show Act.put _ (some 118) _ = _
         simp only [Act.put,List.setIfInBounds_toArray,List.set_cons_zero,List.set_cons_succ,i64_w,i32_w]
         rfl
        refine one_ (i:=11) (N:=some 122) (bq 13 4095) rfl rfl (one_of HT_.out (by kernel_rfl)) (by decide) (fun K hK=>?_)
        refine Kd.R_append_rows_step k96 (Rr:=k96.K _) (w0:=wc) wc.heap.size (by rfl) (.tmp 118) (.tmp 121) 94 96 _ 88 rfl Tryz.underlying94 info96 rfl (by decide) (by decide) v55 (xs.take kx ++ [(⟨a0,(i:Int),(n:Int),⟨ya,yq,⟨ysA,ysn,ysc⟩,⟨yxA,yxn,yxc⟩⟩⟩:S96)]) (xs.drop kx) A4' (xs.length - kx) (cp - kx) (fun _=>True) (fun _=>False) (by rfl) (by rfl) hr55 (by exact Kd.C_below HD.out hHeld) (fun x cs h=>k96_KM h) (fun _ h=>h.elim) (fun _ _=>trivial) hHeld hHeld.size (by rw [List.length_append,HLEN.out,List.length_singleton];omega) ?_
        intro v59 W59 hr59 hb59 hg59 ho59
        refine hK.out _ _ hb59 (fun hHeld=>?_)
        clear hK K
        refine norm_ (a':=?_) ?_ ?_
        rotate_left
        ·show Act.put _ (some 122) _ = _
         simp only [Act.put,List.setIfInBounds_toArray,List.set_cons_zero,List.set_cons_succ,i64_w,i32_w]
         rfl
        refine pu_ 12 (some 4) (bq 13 8191) HT_ rfl rfl ?_
        refine done_ (done_of HT_.out (by kernel_rfl)) ?_
        clear HT HD HX7 hcutA hcutB
        obtain ⟨A6,c6,rfl⟩:∃ A6 c6,v59 = .slice A6 (arIns (⟨a0,(i:Int),(n:Int)⟩:Ar) ar).length c6:=by
         obtain ⟨A6,c6,e⟩:=Kd.R_slice hr59
         exact ⟨A6,c6,by rw [e,← HIN.out,List.length_map]⟩
        have HO6:=Aside0.mk hr59
        replace HBL:=Aside0.mk (below_step HBL.out hHeld)
        clear hr59 hHeld g0 g1 g2 g3 g4 g5 g6
        go_wp2_with fail
        go_roundg (cN - (n + 1))
        case measure=>omega
        case rel=>exact ⟨n + 1,_,A6,c6,by rfl,by first | rfl | go_num,by omega,Nat.le_refl _,HXI,⟨by rw [HIN.out];exact Kd.R_lower HO6.out HWB.out⟩,HBL⟩
      ·obtain rfl:n = cN:=by omega
       have hz4:decide ((n:Int) < (n:Int)) = false:=by simp
       have hz5:decide (n < n) = false:=by simp
       go_wp2_with fail
       go_roundg (L.length - (i + 1))
       case measure=>omega
       case rel=>exact ⟨i + 1,ar,A,cp,by rfl,by first | rfl | go_num,by omega,Nat.le_refl _,⟨by rw [HCN.out];exact HAR.out⟩,HO,HBL⟩
  ·obtain rfl:i = L.length:=by omega
   have hz1:decide ((L.length:Int) < (L.length:Int)) = false:=by simp
   have hz2:decide (L.length < L.length) = false:=by simp
   have HMEM:Aside0 (∀ a ∈ sl,∃ q:Nat,q < L.length∧a.idx = (q:Int)):=⟨fun a ha=>arL_mem c.seed c.loss c.rep L.length a (by rw [HAS.out];exact ha)⟩
   have hsl:sl.length ≤ 20000000:=by rw [← HAS.out];have:=arL_len c.seed c.loss c.rep L.length;omega
   have HOC:=Aside0.mk (Kd.R_reads' HO.out).2.2
   clear HO
   go_wp2_with fail
   obtain ⟨WR,rfl⟩:∃ WR:World,WR = wr:=⟨_,rfl⟩
   go_loopg [10,11] sl.length (fun gg s10 s11 w2=>∃ (j:Nat) (B:Option Addr) (cb:Nat),s10 = .slice B j cb∧s11 = .int .i64 (j:Int)∧j ≤ sl.length∧sl.length - j ≤ gg∧Aside0 (Kd.R k81 81 w2 WR.heap.size (fun _=>True) (.slice B j cb) ((sl.take j).map fun a=>rd81 ys a.idx))∧Aside0 (Below WR.heap.size WR w2))
   case atStart=>exact ⟨0,none,0,by rfl,by rfl,by omega,by omega,⟨Kd.R_nil _ _ _ _ _⟩,⟨Below.refl _ _⟩⟩
   case round=>
    obtain ⟨j,B,cb,rfl,rfl,hj,hgj,HR8,HW⟩:=hrel
    by_cases hjl:j < sl.length
    ·have hz4:(j:Int) < (sl.length:Int):=by omega
     have sj1:IntKind.i64.wrap ((j:Int) + 1) = (j:Int) + 1:=IntWalk.i64_in _ (by omega)
     obtain ⟨a3,e,-,-,-,p3,p4,p5,p6⟩:=cells96 HOC.out j (by rw [List.length_map];exact hjl)
     subst e
     rw [rd96_map ys sl j hjl] at p3 p4 p5 p6
     unfold mkA at p3 p4 p5 p6
     dsimp only at p3 p4 p5 p6
     have HTJ:Aside0 ((sl.take (j + 1)).map (fun a=>rd81 ys a.idx) = (sl.take j).map (fun a=>rd81 ys a.idx) ++ [rd81 ys sl[j].idx]):=⟨by rw [List.take_succ_eq_append_getElem hjl,List.map_append];rfl⟩
     have HTL:Aside0 (((sl.take j).map (fun a=>rd81 ys a.idx)).length = j):=⟨by rw [List.length_map,List.length_take];omega⟩
     generalize (sl.take j).map (fun a=>rd81 ys a.idx) = xs8 at HR8 HTJ HTL
     generalize rd81 ys sl[j].idx = y at p3 p4 p5 p6 HTJ
     obtain ⟨ya,yq,⟨ysA,ysn,ysc⟩,⟨yxA,yxn,yxc⟩⟩:=y
     dsimp only at p3 p4 p5 p6
     replace p3:=below_at HW.out p3
     replace p4:=below_at HW.out p4
     replace p5:=below_at HW.out p5
     replace p6:=below_at HW.out p6
     have hh9:=HTL.out
     have HSZ:=HW.out.size
     go_upto_region 22 with fail
     clear hh9
     go_wp2_with (at_builtin;go_must (refine Kd.R_append k81 (w0:=WR) WR.heap.size rfl _ _ 38 81 _ 64 rfl Tryz.underlying38 info81 rfl (by decide) (by decide) (.slice B j cb) xs8 (⟨ya,yq,⟨ysA,ysn,ysc⟩,⟨yxA,yxn,yxc⟩⟩:S81) [.int .i64 ya,.int .i64 yq,.slice ysA ysn ysc,.slice yxA yxn yxc] (fun _=>True) (fun _=>False) rfl ?c4 (k81_mkM _ _ _ ⟨ya,yq,⟨ysA,ysn,ysc⟩,⟨yxA,yxn,yxc⟩⟩) (fun _ h=>h.elim) (fun _ _=>trivial) HR8.out HW.out HSZ ?c3 ?_;(case c4=>simp [go_sem]);(case c3=>rw [HTL.out];omega);intro v2 w2 hr2 hb2 hg2 ho2;clear hg2 ho2;have HR9:=Aside0.mk hr2;have HB9:=Aside0.mk hb2;clear hr2 hb2))
     obtain ⟨A9,c9,rfl⟩:∃ A9 c9,v2 = .slice A9 (j + 1) c9:=by
      obtain ⟨A9,c9,e⟩:=Kd.R_slice HR9.out
      exact ⟨A9,c9,by rw [e,List.length_append,HTL.out];rfl⟩
     go_wp2_with fail
     go_roundg (sl.length - (j + 1))
     case measure=>omega
     case rel=>exact ⟨j + 1,A9,c9,by rfl,by first | rfl | go_num,by omega,Nat.le_refl _,⟨by rw [HTJ.out];exact HR9.out⟩,HB9⟩
    ·obtain rfl:j = sl.length:=by omega
     have hz4:decide ((sl.length:Int) < (sl.length:Int)) = false:=by simp
     have hz5:decide (sl.length < sl.length) = false:=by simp
     have HBW:=Aside0.mk (below_step HBL.out HW.out)
     have HBA:=Aside0.mk (below_step HB.out HBW.out)
     rw [List.take_length] at HR8
     have HF:=Aside0.mk (FrRd.of (fs:=arrive L sl) (Kd.R_reads' HR8.out).2.2 (by unfold arrive;rw [List.length_map,List.length_map]) (arrive_rows HYL.out (fun q h1 h2=>(HOK.out q h1 h2).below HBW.out) sl HMEM.out))
     have HLA:Aside0 ((arrive L sl).length = sl.length):=⟨by unfold arrive;rw [List.length_map]⟩
     clear HR8 HW HBW
     go_wp2
     go_ret
     rw [HAS.out]
     exact ⟨B,cb,by rw [HLA.out];rfl,HF.out,HBA.out⟩
end Go.Proofs.YtdadnapfecmmdaaGreat.P
