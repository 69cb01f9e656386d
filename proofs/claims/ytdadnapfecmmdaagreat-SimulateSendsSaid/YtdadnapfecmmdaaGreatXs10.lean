/- Own texts of a proof about layer 55's simulate (merged): Hk. -/
import Derived.Test.YtdadnapfecmmdaaGreatXs2
import Derived.Test.YtdadnapfecmmdaaGreatXs9
namespace Go.Proofs.YtdadnapfecmmdaaGreat.P
set_option linter.unusedVariables false
set_option linter.unusedSimpArgs false
open Go.RowKit Go.Proofs.YtdadnapfecmmdaaGreatW.PrintWords Go.Proofs.YtdadnapfecmmdaaGreatW.PrintLast Go.Proofs.YtdadnapfecmmdaaGreatW.PrintMore
open Go.Proofs.YtdadnapfecmmdaaGreat.Hm
theorem ex_calls (w:World):Calls Tryz.prog 23 #[] w fun e w'=>∃ p:CfgAt,e = .returned (exC.val p)∧CfgR w' p exC∧Below w.heap.size w w':=by
 refine (sleuthlaw55_example.calls 0 exC.sv exC.off exC.ch exC.fl 3 4 1 0 2 0 0 w rfl).mono ?_
 rintro e w' ⟨v1,v2,v3,v4,rfl,h1,h2,h3,h4,hb⟩
 obtain ⟨A1,c1,rfl,l1,k1⟩:=Kd.N_reads h1
 obtain ⟨A2,c2,rfl,l2,k2⟩:=Kd.R_reads h2
 obtain ⟨A3,c3,rfl,l3,k3⟩:=Kd.R_reads h3
 obtain ⟨A4,c4,rfl,l4,k4⟩:=Kd.R_reads h4
 exact ⟨⟨A1,c1,A2,c2,A3,c3,A4,c4⟩,rfl,⟨k1,l1,k2,l2,k3,l3,k4,l4⟩,hb⟩
theorem own_cells {W:World} {b r cp:Nat} {e:TypeId} {sz n:Nat} {xs:List Value} (ho:W.ownsRow b e sz (.slice (some ⟨r,0,none⟩) n cp) n xs) (i:Nat) (hi:i < n * sz):W.cell? ⟨r,i,none⟩ = xs[i]?:=by
 rcases ho.2 with ⟨h,_⟩ | ⟨r',cap,cur,e',hb,hr,h1,h2,h3,h4⟩
 ·cases h
 ·injection e' with e'
  injection e' with e'
  injection e' with e'
  subst e'
  rw [blk_cell hr,← h4,List.getElem?_take,if_pos hi,Array.getElem?_toList]
def knownT.T4:Bool × List (List Nat × List Nat):=(true,[([],[]),([0],[0]),([1],[1]),([2],[2]),([3],[3]),([4],[4]),([],[]),([6],[6]),([7],[7]),([8],[8]),([9],[9]),([10],[10]),([],[]),([12],[12]),([13],[13]),([14],[14]),([15],[15]),([16],[16]),([],[]),([],[]),([],[]),([18,5,0,1,2,3,4,5,18,19,20],[5,18]),([19,11,21,0,1,2,3,4,5,6,7,8,9,10,11,18,19,20,21],[11,19]),([20,17,22,0,1,2,3,4,5,6,7,8,9,10,11,12,13,14,15,16,17,18,19,20,21,22],[17,20])])
def knownT.B4:List Nat:=[0,1,3,7,15,31,0,64,192,448,960,1984,0,4096,12288,28672,61440,126976,0,0,0,1835071,3936255,8388607]
theorem knownT.tab4:rtab .any (opsOf Tryz.f7 4) = knownT.T4:=by kernel_rfl
theorem knownT.bits4:waitsOk knownT.T4.2 knownT.B4 = true:=by kernel_rfl
set_option maxHeartbeats 8000000 in
set_option maxRecDepth 100000 in
theorem known_calls (w:World):Calls Tryz.prog 7 #[] w fun e w'=>e = .returned (.bool true)∧Below w.heap.size w w':=by
 go_enter Tryz.func7,Tryz.ntmps7
 go_wp2_with fail
 refine (ex_calls _).mono ?_
 rintro e w1 ⟨p,rfl,hR,hb1⟩
 have HR:=Aside0.mk hR
 have HB:=Aside0.mk hb1
 clear hR hb1
 go_wp2_with fail
 refine (Traces_ok 20 20 exC p w1 exT HR.out ex_check ex_traces).mono ?_
 rintro e w2 ⟨v,rfl,⟨xs,hx,hO,hT⟩,hb2⟩
 have HB2:=Aside0.mk (below_step HB.out hb2)
 clear hb2
 obtain ⟨x,rfl⟩:∃ x,xs = [x]:=by
  have h:=congrArg List.length hx
  rw [List.length_map] at h
  exact List.length_eq_one_iff.mp h
 obtain ⟨tr,v0⟩:=x
 obtain rfl:tr = ⟨3145729,[⟨3145729,1,0,0,1,3,⟨#[119,101,98]⟩,⟨#[]⟩,strServe,3005,3019,false⟩,⟨3145729,2,1,0,1,2,⟨#[119,101,98]⟩,⟨#[]⟩,strCall,3010,3014,false⟩,⟨3145729,3,2,0,2,3,⟨#[100,98]⟩,⟨#[]⟩,strServe,3005,3009,false⟩]⟩:=by
  simpa [exT] using hx
 have hT0:=hT _ (List.mem_singleton.mpr rfl)
 obtain ⟨r1,cp1,cur1,rfl,hr1,_⟩:=own_some hO (by simp)
 obtain ⟨r2,cp2,cur2,hv,hr2,_⟩:=own_some hT0 (by simp)
 dsimp only at hv
 subst hv
 have a0:w2.cell? ⟨r1,0,none⟩ = some (.int .i64 3145729):=(own_cells hO 0 (by simp)).trans rfl
 have a2:w2.cell? ⟨r1,2,none⟩ = some (.slice (some ⟨r2,0,none⟩) 3 cp2):=(own_cells hO 2 (by simp)).trans rfl
 have b0_0:w2.cell? ⟨r2,0,none⟩ = some (.int .i64 3145729):=(own_cells hT0 0 (by decide)).trans rfl
 have b0_1:w2.cell? ⟨r2,1,none⟩ = some (.int .i64 1):=(own_cells hT0 1 (by decide)).trans rfl
 have b0_2:w2.cell? ⟨r2,2,none⟩ = some (.int .i64 0):=(own_cells hT0 2 (by decide)).trans rfl
 have b0_3:w2.cell? ⟨r2,3,none⟩ = some (.int .i64 0):=(own_cells hT0 3 (by decide)).trans rfl
 have b0_4:w2.cell? ⟨r2,4,none⟩ = some (.int .i64 1):=(own_cells hT0 4 (by decide)).trans rfl
 have b0_5:w2.cell? ⟨r2,5,none⟩ = some (.int .i64 3):=(own_cells hT0 5 (by decide)).trans rfl
 have b0_6:w2.cell? ⟨r2,6,none⟩ = some (.string ⟨#[119,101,98]⟩):=(own_cells hT0 6 (by decide)).trans rfl
 have b0_7:w2.cell? ⟨r2,7,none⟩ = some (.string ⟨#[]⟩):=(own_cells hT0 7 (by decide)).trans rfl
 have b0_8:w2.cell? ⟨r2,8,none⟩ = some (.string ⟨#[115,101,114,118,101]⟩):=(own_cells hT0 8 (by decide)).trans rfl
 have b0_9:w2.cell? ⟨r2,9,none⟩ = some (.int .i64 3005):=(own_cells hT0 9 (by decide)).trans rfl
 have b0_10:w2.cell? ⟨r2,10,none⟩ = some (.int .i64 3019):=(own_cells hT0 10 (by decide)).trans rfl
 have b0_11:w2.cell? ⟨r2,11,none⟩ = some (.bool false):=(own_cells hT0 11 (by decide)).trans rfl
 have b0_12:w2.cell? ⟨r2,12,none⟩ = some (.slice none 0 0):=(own_cells hT0 12 (by decide)).trans rfl
 have b0_13:w2.cell? ⟨r2,13,none⟩ = some (.slice none 0 0):=(own_cells hT0 13 (by decide)).trans rfl
 have b1_0:w2.cell? ⟨r2,14,none⟩ = some (.int .i64 3145729):=(own_cells hT0 14 (by decide)).trans rfl
 have b1_1:w2.cell? ⟨r2,15,none⟩ = some (.int .i64 2):=(own_cells hT0 15 (by decide)).trans rfl
 have b1_2:w2.cell? ⟨r2,16,none⟩ = some (.int .i64 1):=(own_cells hT0 16 (by decide)).trans rfl
 have b1_3:w2.cell? ⟨r2,17,none⟩ = some (.int .i64 0):=(own_cells hT0 17 (by decide)).trans rfl
 have b1_4:w2.cell? ⟨r2,18,none⟩ = some (.int .i64 1):=(own_cells hT0 18 (by decide)).trans rfl
 have b1_5:w2.cell? ⟨r2,19,none⟩ = some (.int .i64 2):=(own_cells hT0 19 (by decide)).trans rfl
 have b1_6:w2.cell? ⟨r2,20,none⟩ = some (.string ⟨#[119,101,98]⟩):=(own_cells hT0 20 (by decide)).trans rfl
 have b1_7:w2.cell? ⟨r2,21,none⟩ = some (.string ⟨#[]⟩):=(own_cells hT0 21 (by decide)).trans rfl
 have b1_8:w2.cell? ⟨r2,22,none⟩ = some (.string ⟨#[99,97,108,108]⟩):=(own_cells hT0 22 (by decide)).trans rfl
 have b1_9:w2.cell? ⟨r2,23,none⟩ = some (.int .i64 3010):=(own_cells hT0 23 (by decide)).trans rfl
 have b1_10:w2.cell? ⟨r2,24,none⟩ = some (.int .i64 3014):=(own_cells hT0 24 (by decide)).trans rfl
 have b1_11:w2.cell? ⟨r2,25,none⟩ = some (.bool false):=(own_cells hT0 25 (by decide)).trans rfl
 have b1_12:w2.cell? ⟨r2,26,none⟩ = some (.slice none 0 0):=(own_cells hT0 26 (by decide)).trans rfl
 have b1_13:w2.cell? ⟨r2,27,none⟩ = some (.slice none 0 0):=(own_cells hT0 27 (by decide)).trans rfl
 have b2_0:w2.cell? ⟨r2,28,none⟩ = some (.int .i64 3145729):=(own_cells hT0 28 (by decide)).trans rfl
 have b2_1:w2.cell? ⟨r2,29,none⟩ = some (.int .i64 3):=(own_cells hT0 29 (by decide)).trans rfl
 have b2_2:w2.cell? ⟨r2,30,none⟩ = some (.int .i64 2):=(own_cells hT0 30 (by decide)).trans rfl
 have b2_3:w2.cell? ⟨r2,31,none⟩ = some (.int .i64 0):=(own_cells hT0 31 (by decide)).trans rfl
 have b2_4:w2.cell? ⟨r2,32,none⟩ = some (.int .i64 2):=(own_cells hT0 32 (by decide)).trans rfl
 have b2_5:w2.cell? ⟨r2,33,none⟩ = some (.int .i64 3):=(own_cells hT0 33 (by decide)).trans rfl
 have b2_6:w2.cell? ⟨r2,34,none⟩ = some (.string ⟨#[100,98]⟩):=(own_cells hT0 34 (by decide)).trans rfl
 have b2_7:w2.cell? ⟨r2,35,none⟩ = some (.string ⟨#[]⟩):=(own_cells hT0 35 (by decide)).trans rfl
 have b2_8:w2.cell? ⟨r2,36,none⟩ = some (.string ⟨#[115,101,114,118,101]⟩):=(own_cells hT0 36 (by decide)).trans rfl
 have b2_9:w2.cell? ⟨r2,37,none⟩ = some (.int .i64 3005):=(own_cells hT0 37 (by decide)).trans rfl
 have b2_10:w2.cell? ⟨r2,38,none⟩ = some (.int .i64 3009):=(own_cells hT0 38 (by decide)).trans rfl
 have b2_11:w2.cell? ⟨r2,39,none⟩ = some (.bool false):=(own_cells hT0 39 (by decide)).trans rfl
 have b2_12:w2.cell? ⟨r2,40,none⟩ = some (.slice none 0 0):=(own_cells hT0 40 (by decide)).trans rfl
 have b2_13:w2.cell? ⟨r2,41,none⟩ = some (.slice none 0 0):=(own_cells hT0 41 (by decide)).trans rfl
 have hlt1:=blk_lt hr1
 have hlt2:=blk_lt hr2
 clear hx hO hT hT0 hr1 hr2 HR HB
 go_wp2_with fail
 refine start_ (n:=24) (S:=fun w'=>Below w2.heap.size w2 w') (ds:=[]) (bq 24 0) (by kernel_rfl) rfl rfl (Below.refl _ _).drew (fun hHeld=>?_)
 refine with_tabW knownT.tab4 knownT.bits4 (fun HT_ HW_=>?_)
 generalize w2.drew = wd at hHeld ⊢
 have hWd:=hHeld
 refine pu_ 0 (some 33) (bq 24 1) HT_ rfl rfl ?_
 refine pu_ 1 (some 34) (bq 24 3) HT_ rfl rfl ?_
 refine pu_ 2 (some 35) (bq 24 7) HT_ rfl rfl ?_
 refine tk_ 3 (some 36) (bq 24 15) HT_ HW_ rfl rfl hHeld ?_ (by intro w' hS;replace a2:=below_at hS a2;go_simp;with_reducible rfl)
 refine pu_ 4 (some 37) (bq 24 31) HT_ rfl rfl ?_
 refine tk_ 5 (some 38) (bq 24 63) HT_ HW_ rfl rfl hHeld ?_ (by intro w' hS;replace b0_0:=below_at hS b0_0;replace b0_1:=below_at hS b0_1;replace b0_2:=below_at hS b0_2;replace b0_3:=below_at hS b0_3;replace b0_4:=below_at hS b0_4;replace b0_5:=below_at hS b0_5;replace b0_6:=below_at hS b0_6;replace b0_7:=below_at hS b0_7;replace b0_8:=below_at hS b0_8;replace b0_9:=below_at hS b0_9;replace b0_10:=below_at hS b0_10;replace b0_11:=below_at hS b0_11;replace b0_12:=below_at hS b0_12;replace b0_13:=below_at hS b0_13;go_simp;with_reducible rfl)
 refine pu_ 6 (some 39) (bq 24 127) HT_ rfl rfl ?_
 refine pu_ 7 (some 40) (bq 24 255) HT_ rfl rfl ?_
 refine pu_ 8 (some 41) (bq 24 511) HT_ rfl rfl ?_
 refine tk_ 9 (some 42) (bq 24 1023) HT_ HW_ rfl rfl hHeld ?_ (by intro w' hS;replace a2:=below_at hS a2;go_simp;with_reducible rfl)
 refine pu_ 10 (some 43) (bq 24 2047) HT_ rfl rfl ?_
 refine tk_ 11 (some 44) (bq 24 4095) HT_ HW_ rfl rfl hHeld ?_ (by intro w' hS;replace b1_0:=below_at hS b1_0;replace b1_1:=below_at hS b1_1;replace b1_2:=below_at hS b1_2;replace b1_3:=below_at hS b1_3;replace b1_4:=below_at hS b1_4;replace b1_5:=below_at hS b1_5;replace b1_6:=below_at hS b1_6;replace b1_7:=below_at hS b1_7;replace b1_8:=below_at hS b1_8;replace b1_9:=below_at hS b1_9;replace b1_10:=below_at hS b1_10;replace b1_11:=below_at hS b1_11;replace b1_12:=below_at hS b1_12;replace b1_13:=below_at hS b1_13;go_simp;with_reducible rfl)
 refine pu_ 12 (some 45) (bq 24 8191) HT_ rfl rfl ?_
 refine pu_ 13 (some 46) (bq 24 16383) HT_ rfl rfl ?_
 refine pu_ 14 (some 47) (bq 24 32767) HT_ rfl rfl ?_
 refine tk_ 15 (some 48) (bq 24 65535) HT_ HW_ rfl rfl hHeld ?_ (by intro w' hS;replace a2:=below_at hS a2;go_simp;with_reducible rfl)
 refine pu_ 16 (some 49) (bq 24 131071) HT_ rfl rfl ?_
 refine tk_ 17 (some 50) (bq 24 262143) HT_ HW_ rfl rfl hHeld ?_ (by intro w' hS;replace b2_0:=below_at hS b2_0;replace b2_1:=below_at hS b2_1;replace b2_2:=below_at hS b2_2;replace b2_3:=below_at hS b2_3;replace b2_4:=below_at hS b2_4;replace b2_5:=below_at hS b2_5;replace b2_6:=below_at hS b2_6;replace b2_7:=below_at hS b2_7;replace b2_8:=below_at hS b2_8;replace b2_9:=below_at hS b2_9;replace b2_10:=below_at hS b2_10;replace b2_11:=below_at hS b2_11;replace b2_12:=below_at hS b2_12;replace b2_13:=below_at hS b2_13;go_simp;with_reducible rfl)
 refine three_ (i:=18) (j:=19) (k:=20) (Ni:=some 3) (Nj:=some 4) (Nk:=some 5) #[true,true,true,true,true,true,true,true,true,true,true,true,true,true,true,true,true,true,true,false,false,false,false,false] #[true,true,true,true,true,true,true,true,true,true,true,true,true,true,true,true,true,true,false,true,false,false,false,false] #[true,true,true,true,true,true,true,true,true,true,true,true,true,true,true,true,true,true,false,false,true,false,false,false] rfl rfl rfl rfl rfl rfl (three_of HT_.out (by kernel_rfl)) (by decide) (by decide) (by decide) (fun K hK=>?_) (fun K hK=>?_) (fun K hK=>?_)
 ·rw [if_pos (by rfl)]
  go_simp
  refine hK.out _ _ (by repeat (first | exact hWd | refine below_alloc ?_ _)) (fun hHeld=>?_)
  clear hK K
  refine two_ (i:=19) (j:=20) (Ni:=some 4) (Nj:=some 5) (bq 24 1048575) (bq 24 1572863) rfl rfl rfl rfl (two_of HT_.out (by kernel_rfl)) (by decide) (by decide) (fun K hK=>?_) (fun K hK=>?_)
  ·rw [if_pos (by rfl)]
   go_simp
   refine hK.out _ _ (by repeat (first | exact hWd | refine below_alloc ?_ _)) (fun hHeld=>?_)
   clear hK K
   refine one_ (i:=20) (N:=some 5) (bq 24 2097151) rfl rfl (one_of HT_.out (by kernel_rfl)) (by decide) (fun K hK=>?_)
   rw [if_pos (by rfl)]
   go_simp
   refine hK.out _ _ (by repeat (first | exact hWd | refine below_alloc ?_ _)) (fun hHeld=>?_)
   clear hK K
   refine one_ (i:=21) (N:=none) (bq 24 4194303) rfl rfl (one_of HT_.out (by kernel_rfl)) (by decide) (fun K hK=>?_)
   rw [if_pos (by rfl)]
   go_simp
   refine hK.out _ _ (by repeat (first | exact hWd | refine below_alloc ?_ _)) (fun hHeld=>?_)
   clear hK K
   refine one_ (i:=22) (N:=none) (bq 24 8388607) rfl rfl (one_of HT_.out (by kernel_rfl)) (by decide) (fun K hK=>?_)
   rw [if_pos (by rfl)]
   go_simp
   refine hK.out _ _ (by repeat (first | exact hWd | refine below_alloc ?_ _)) (fun hHeld=>?_)
   clear hK K
   refine one_ (i:=23) (N:=none) (bq 24 16777215) rfl rfl (one_of HT_.out (by kernel_rfl)) (by decide) (fun K hK=>?_)
   rw [if_pos (by rfl)]
   go_simp
   refine hK.out _ _ (by repeat (first | exact hWd | refine below_alloc ?_ _)) (fun hHeld=>?_)
   clear hK K
   refine done_ (done_of HT_.out (by kernel_rfl)) ?_
   go_wp2_with fail
   go_ret
   exact ⟨by rfl,below_step HB2.out hHeld⟩
  ·rw [if_pos (by rfl)]
   go_simp
   refine hK.out _ _ (by repeat (first | exact hWd | refine below_alloc ?_ _)) (fun hHeld=>?_)
   clear hK K
   refine one_ (i:=19) (N:=some 4) (bq 24 2097151) rfl rfl (one_of HT_.out (by kernel_rfl)) (by decide) (fun K hK=>?_)
   rw [if_pos (by rfl)]
   go_simp
   refine hK.out _ _ (by repeat (first | exact hWd | refine below_alloc ?_ _)) (fun hHeld=>?_)
   clear hK K
   refine one_ (i:=21) (N:=none) (bq 24 4194303) rfl rfl (one_of HT_.out (by kernel_rfl)) (by decide) (fun K hK=>?_)
   rw [if_pos (by rfl)]
   go_simp
   refine hK.out _ _ (by repeat (first | exact hWd | refine below_alloc ?_ _)) (fun hHeld=>?_)
   clear hK K
   refine one_ (i:=22) (N:=none) (bq 24 8388607) rfl rfl (one_of HT_.out (by kernel_rfl)) (by decide) (fun K hK=>?_)
   rw [if_pos (by rfl)]
   go_simp
   refine hK.out _ _ (by repeat (first | exact hWd | refine below_alloc ?_ _)) (fun hHeld=>?_)
   clear hK K
   refine one_ (i:=23) (N:=none) (bq 24 16777215) rfl rfl (one_of HT_.out (by kernel_rfl)) (by decide) (fun K hK=>?_)
   rw [if_pos (by rfl)]
   go_simp
   refine hK.out _ _ (by repeat (first | exact hWd | refine below_alloc ?_ _)) (fun hHeld=>?_)
   clear hK K
   refine done_ (done_of HT_.out (by kernel_rfl)) ?_
   go_wp2_with fail
   go_ret
   exact ⟨by rfl,below_step HB2.out hHeld⟩
 ·rw [if_pos (by rfl)]
  go_simp
  refine hK.out _ _ (by repeat (first | exact hWd | refine below_alloc ?_ _)) (fun hHeld=>?_)
  clear hK K
  refine two_ (i:=18) (j:=20) (Ni:=some 3) (Nj:=some 5) (bq 24 1048575) (bq 24 1835007) rfl rfl rfl rfl (two_of HT_.out (by kernel_rfl)) (by decide) (by decide) (fun K hK=>?_) (fun K hK=>?_)
  ·rw [if_pos (by rfl)]
   go_simp
   refine hK.out _ _ (by repeat (first | exact hWd | refine below_alloc ?_ _)) (fun hHeld=>?_)
   clear hK K
   refine one_ (i:=20) (N:=some 5) (bq 24 2097151) rfl rfl (one_of HT_.out (by kernel_rfl)) (by decide) (fun K hK=>?_)
   rw [if_pos (by rfl)]
   go_simp
   refine hK.out _ _ (by repeat (first | exact hWd | refine below_alloc ?_ _)) (fun hHeld=>?_)
   clear hK K
   refine one_ (i:=21) (N:=none) (bq 24 4194303) rfl rfl (one_of HT_.out (by kernel_rfl)) (by decide) (fun K hK=>?_)
   rw [if_pos (by rfl)]
   go_simp
   refine hK.out _ _ (by repeat (first | exact hWd | refine below_alloc ?_ _)) (fun hHeld=>?_)
   clear hK K
   refine one_ (i:=22) (N:=none) (bq 24 8388607) rfl rfl (one_of HT_.out (by kernel_rfl)) (by decide) (fun K hK=>?_)
   rw [if_pos (by rfl)]
   go_simp
   refine hK.out _ _ (by repeat (first | exact hWd | refine below_alloc ?_ _)) (fun hHeld=>?_)
   clear hK K
   refine one_ (i:=23) (N:=none) (bq 24 16777215) rfl rfl (one_of HT_.out (by kernel_rfl)) (by decide) (fun K hK=>?_)
   rw [if_pos (by rfl)]
   go_simp
   refine hK.out _ _ (by repeat (first | exact hWd | refine below_alloc ?_ _)) (fun hHeld=>?_)
   clear hK K
   refine done_ (done_of HT_.out (by kernel_rfl)) ?_
   go_wp2_with fail
   go_ret
   exact ⟨by rfl,below_step HB2.out hHeld⟩
  ·rw [if_pos (by rfl)]
   go_simp
   refine hK.out _ _ (by repeat (first | exact hWd | refine below_alloc ?_ _)) (fun hHeld=>?_)
   clear hK K
   refine one_ (i:=18) (N:=some 3) (bq 24 2097151) rfl rfl (one_of HT_.out (by kernel_rfl)) (by decide) (fun K hK=>?_)
   rw [if_pos (by rfl)]
   go_simp
   refine hK.out _ _ (by repeat (first | exact hWd | refine below_alloc ?_ _)) (fun hHeld=>?_)
   clear hK K
   refine one_ (i:=21) (N:=none) (bq 24 4194303) rfl rfl (one_of HT_.out (by kernel_rfl)) (by decide) (fun K hK=>?_)
   rw [if_pos (by rfl)]
   go_simp
   refine hK.out _ _ (by repeat (first | exact hWd | refine below_alloc ?_ _)) (fun hHeld=>?_)
   clear hK K
   refine one_ (i:=22) (N:=none) (bq 24 8388607) rfl rfl (one_of HT_.out (by kernel_rfl)) (by decide) (fun K hK=>?_)
   rw [if_pos (by rfl)]
   go_simp
   refine hK.out _ _ (by repeat (first | exact hWd | refine below_alloc ?_ _)) (fun hHeld=>?_)
   clear hK K
   refine one_ (i:=23) (N:=none) (bq 24 16777215) rfl rfl (one_of HT_.out (by kernel_rfl)) (by decide) (fun K hK=>?_)
   rw [if_pos (by rfl)]
   go_simp
   refine hK.out _ _ (by repeat (first | exact hWd | refine below_alloc ?_ _)) (fun hHeld=>?_)
   clear hK K
   refine done_ (done_of HT_.out (by kernel_rfl)) ?_
   go_wp2_with fail
   go_ret
   exact ⟨by rfl,below_step HB2.out hHeld⟩
 ·rw [if_pos (by rfl)]
  go_simp
  refine hK.out _ _ (by repeat (first | exact hWd | refine below_alloc ?_ _)) (fun hHeld=>?_)
  clear hK K
  refine two_ (i:=18) (j:=19) (Ni:=some 3) (Nj:=some 4) (bq 24 1572863) (bq 24 1835007) rfl rfl rfl rfl (two_of HT_.out (by kernel_rfl)) (by decide) (by decide) (fun K hK=>?_) (fun K hK=>?_)
  ·rw [if_pos (by rfl)]
   go_simp
   refine hK.out _ _ (by repeat (first | exact hWd | refine below_alloc ?_ _)) (fun hHeld=>?_)
   clear hK K
   refine one_ (i:=19) (N:=some 4) (bq 24 2097151) rfl rfl (one_of HT_.out (by kernel_rfl)) (by decide) (fun K hK=>?_)
   rw [if_pos (by rfl)]
   go_simp
   refine hK.out _ _ (by repeat (first | exact hWd | refine below_alloc ?_ _)) (fun hHeld=>?_)
   clear hK K
   refine one_ (i:=21) (N:=none) (bq 24 4194303) rfl rfl (one_of HT_.out (by kernel_rfl)) (by decide) (fun K hK=>?_)
   rw [if_pos (by rfl)]
   go_simp
   refine hK.out _ _ (by repeat (first | exact hWd | refine below_alloc ?_ _)) (fun hHeld=>?_)
   clear hK K
   refine one_ (i:=22) (N:=none) (bq 24 8388607) rfl rfl (one_of HT_.out (by kernel_rfl)) (by decide) (fun K hK=>?_)
   rw [if_pos (by rfl)]
   go_simp
   refine hK.out _ _ (by repeat (first | exact hWd | refine below_alloc ?_ _)) (fun hHeld=>?_)
   clear hK K
   refine one_ (i:=23) (N:=none) (bq 24 16777215) rfl rfl (one_of HT_.out (by kernel_rfl)) (by decide) (fun K hK=>?_)
   rw [if_pos (by rfl)]
   go_simp
   refine hK.out _ _ (by repeat (first | exact hWd | refine below_alloc ?_ _)) (fun hHeld=>?_)
   clear hK K
   refine done_ (done_of HT_.out (by kernel_rfl)) ?_
   go_wp2_with fail
   go_ret
   exact ⟨by rfl,below_step HB2.out hHeld⟩
  ·rw [if_pos (by rfl)]
   go_simp
   refine hK.out _ _ (by repeat (first | exact hWd | refine below_alloc ?_ _)) (fun hHeld=>?_)
   clear hK K
   refine one_ (i:=18) (N:=some 3) (bq 24 2097151) rfl rfl (one_of HT_.out (by kernel_rfl)) (by decide) (fun K hK=>?_)
   rw [if_pos (by rfl)]
   go_simp
   refine hK.out _ _ (by repeat (first | exact hWd | refine below_alloc ?_ _)) (fun hHeld=>?_)
   clear hK K
   refine one_ (i:=21) (N:=none) (bq 24 4194303) rfl rfl (one_of HT_.out (by kernel_rfl)) (by decide) (fun K hK=>?_)
   rw [if_pos (by rfl)]
   go_simp
   refine hK.out _ _ (by repeat (first | exact hWd | refine below_alloc ?_ _)) (fun hHeld=>?_)
   clear hK K
   refine one_ (i:=22) (N:=none) (bq 24 8388607) rfl rfl (one_of HT_.out (by kernel_rfl)) (by decide) (fun K hK=>?_)
   rw [if_pos (by rfl)]
   go_simp
   refine hK.out _ _ (by repeat (first | exact hWd | refine below_alloc ?_ _)) (fun hHeld=>?_)
   clear hK K
   refine one_ (i:=23) (N:=none) (bq 24 16777215) rfl rfl (one_of HT_.out (by kernel_rfl)) (by decide) (fun K hK=>?_)
   rw [if_pos (by rfl)]
   go_simp
   refine hK.out _ _ (by repeat (first | exact hWd | refine below_alloc ?_ _)) (fun hHeld=>?_)
   clear hK K
   refine done_ (done_of HT_.out (by kernel_rfl)) ?_
   go_wp2_with fail
   go_ret
   exact ⟨by rfl,below_step HB2.out hHeld⟩
end Go.Proofs.YtdadnapfecmmdaaGreat.P
