/- Own texts of a proof about layer 55's simulate (merged): Ao, Aw. -/
import Derived.Test.YtdadnapfecmmdaaGreatXs10
import Derived.Test.YtdadnapfecmmdaaGreatXs18
import Derived.Test.YtdadnapfecmmdaaGreatXs2
import Derived.Test.YtdadnapfecmmdaaGreatXs20
import Derived.Test.YtdadnapfecmmdaaGreatXs21
import Derived.Test.YtdadnapfecmmdaaGreatXs7
import Derived.Test.YtdadnapfecmmdaaGreatXs8
import Derived.Shelf.Abstract
import Derived.Sort.OwnSortedInts
namespace Go.Proofs.YtdadnapfecmmdaaGreat.P
set_option linter.unusedVariables false
set_option linter.unusedSimpArgs false
open Go.RowKit Go.Proofs.YtdadnapfecmmdaaGreatW.PrintWords Go.Proofs.YtdadnapfecmmdaaGreatW.PrintLast Go.Proofs.YtdadnapfecmmdaaGreatW.PrintMore
def aoT.T1:Bool × List (List Nat × List Nat):=(true,[([],[]),([0],[0]),([],[]),([2],[2]),([1,3],[1,3]),([],[]),([5],[5]),([],[]),([7],[7]),([6,8,4],[6,8]),([],[]),([10],[10]),([],[]),([12],[12]),([11,13,9],[11,13]),([4,9,14],[4,9,14]),([15,14],[15]),([16,16,0,1,2,3,4,5,6,7,8,9,10,11,12,13,14,15,16],[16])])
def aoT.B1:List Nat:=[0,1,0,4,15,0,32,0,128,511,0,1024,0,4096,16383,32767,65535,131071]
theorem aoT.tab1:rtab .any (opsOf Tryz.f20 1) = aoT.T1:=by kernel_rfl
theorem aoT.bits1:waitsOk aoT.T1.2 aoT.B1 = true:=by kernel_rfl
structure GrW (v w':World):Prop where
 mk::(out:∃ q os,w' = Go.Sort.grow (v.drewN q) os)
theorem GrW.refl (v:World):GrW v v:=⟨0,#[],by rw [Go.Sort.grow_empty];rfl⟩
theorem GrW.drew {v:World}:GrW v v.drew:=⟨1,#[],by rw [Go.Sort.grow_empty];rfl⟩
theorem GrW.alloc {v w':World} (h:GrW v w') (o:Obj):GrW v (w'.alloc o):=by
 obtain ⟨q,os,rfl⟩:=h.out
 exact ⟨q,os ++ #[o],by rw [Go.Sort.alloc_eq_grow,Go.Sort.grow_grow]⟩
theorem GrW.drawn {v w' w2:World} (h:GrW v w') (hd:Drawn0 w' w2):GrW v w2:=by
 obtain ⟨q,os,rfl⟩:=h.out
 obtain ⟨m,rfl⟩:=hd.out
 exact ⟨q + m,os,by rw [← World.drewN_drewN];rfl⟩
theorem GrW.trans {u v w':World} (h:GrW u v) (k:GrW v w'):GrW u w':=by
 obtain ⟨q,os,rfl⟩:=h.out
 obtain ⟨q2,os2,rfl⟩:=k.out
 exact ⟨q + q2,os ++ os2,by rw [← World.drewN_drewN,← Go.Sort.grow_grow];rfl⟩
theorem GrW.below {v w':World} (h:GrW v w'):Below v.heap.size v w':=by
 obtain ⟨q,os,rfl⟩:=h.out
 exact ⟨rfl,rfl,rfl,by simp [Go.Sort.grow,World.drewN],fun i hi=>Go.Sort.heap_grow_old _ _ hi⟩
def cfI (a b:Int):Int:=if a < b then -1 else if b < a then 1 else 0
theorem cmpi_calls (a b:Int) (w:World):Calls Tryz.prog 22 #[.int .i64 a,.int .i64 b] w fun e w'=>e = .returned (.int .i64 (cfI a b))∧Drawn0 w w':=
 cmp_Compare_int.calls a b (cfI a b) w (by
  unfold cmp_Compare_int.f cmp_isNaN_int.f cfI
  by_cases h1:a < b
  ·simp [h1]
  ·by_cases h2:b < a
   ·simp [h1,h2]
   ·simp [h1,h2])
def or3 (a b c:Int):Int:=if a = 0 then (if b = 0 then c else b) else a
theorem or3_f (a b c:Int):cmp_Or_int.f 4 [a,b,c] = some (or3 a b c):=by
 unfold cmp_Or_int.f or3
 simp only [cmp_Or_int.l0,rd,List.length_cons,List.length_nil]
 have e0:wrap64 (0 + 1) = 1:=by kernel_rfl
 have e1:wrap64 1 = 1:=by kernel_rfl
 have e2:wrap64 2 = 2:=by kernel_rfl
 have e3:wrap64 3 = 3:=by kernel_rfl
 have e4:wrap64 (1 + 1) = 2:=by kernel_rfl
 have e5:wrap64 (2 + 1) = 3:=by kernel_rfl
 by_cases ha:a = 0
 ·by_cases hb:b = 0
  ·by_cases hc:c = 0
   ·simp [ha,hb,hc,e0,e1,e2,e3,e4,e5]
   ·simp [ha,hb,hc,e0,e1,e2,e3,e4,e5]
  ·simp [ha,hb,e0,e1,e2,e3,e4,e5]
 ·simp [ha,e0,e1,e2,e3,e4,e5]
def cfA (x y:Ar):Int:=or3 (cfI x.key y.key) (cfI x.idx y.idx) (cfI x.cpy y.cpy)
def encA (x:Ar):List Value:=[.int .i64 x.key,.int .i64 x.idx,.int .i64 x.cpy]
instance:Inhabited Ar:=⟨⟨0,0,0⟩⟩
theorem cfI_neg (a b:Int):cfI a b < 0 ↔ a < b:=by unfold cfI;split <;> (try split) <;> omega
theorem cfI_zero (a b:Int):cfI a b = 0 ↔ a = b:=by unfold cfI;split <;> (try split) <;> omega
theorem lt_iff (x y:Ar):ltOf cfA x y = true ↔ x.key < y.key ∨ x.key = y.key∧(x.idx < y.idx ∨ x.idx = y.idx∧x.cpy < y.cpy):=by
 unfold ltOf cfA or3
 rw [decide_eq_true_eq]
 have h1:=cfI_neg x.key y.key
 have h2:=cfI_zero x.key y.key
 have h3:=cfI_neg x.idx y.idx
 have h4:=cfI_zero x.idx y.idx
 have h5:=cfI_neg x.cpy y.cpy
 split
 ·split
  ·rw [h5];omega
  ·rw [h3];omega
 ·rw [h1];omega
theorem lt_iff_f (x y:Ar):ltOf cfA x y = false ↔ ¬ (x.key < y.key ∨ x.key = y.key∧(x.idx < y.idx ∨ x.idx = y.idx∧x.cpy < y.cpy)):=by
 rw [← lt_iff,Bool.not_eq_true]
theorem swoA:Go.Sort.SWO (ltOf cfA):=⟨fun x=>by rw [lt_iff_f];omega,fun x y z h1 h2=>by rw [lt_iff] at *;omega,fun x y z h1 h2=>by rw [lt_iff_f] at *;omega⟩
theorem totA (x y:Ar) (h1:ltOf cfA x y = false) (h2:ltOf cfA y x = false):x = y:=by
 rw [lt_iff_f] at h1 h2
 obtain ⟨a,b,c⟩:=x
 obtain ⟨d,e,f⟩:=y
 simp only at h1 h2
 obtain rfl:a = d:=by omega
 obtain rfl:b = e:=by omega
 obtain rfl:c = f:=by omega
 rfl
theorem le_ltA (x y:Ar):(!ltOf cfA y x) = x.le y:=by
 have h:=lt_iff y x
 unfold Ar.le
 cases hl:ltOf cfA y x with
 | true=>rw [hl] at h;simp only [true_iff] at h;symm;simp only [Bool.not_true];exact decide_eq_false (by omega)
 | false=>rw [hl] at h;simp only [Bool.false_eq_true,false_iff] at h;symm;simp only [Bool.not_false];exact decide_eq_true (by omega)
theorem merge_arSort (l:List Ar):(l.mergeSort fun x y=>!ltOf cfA y x) = arSort l []:=by
 have e:(fun x y:Ar=>!ltOf cfA y x) = fun x y=>x.le y:=by funext x y;exact le_ltA x y
 rw [e]
 exact arSort_eq l _ (List.mergeSort_perm l _) (List.pairwise_mergeSort (fun x y z h1 h2=>Ar.le_trans x y z h1 h2) (fun x y=>Ar.le_total x y) l)
theorem C3 {W:World} {g:Nat} {a b c:Int} (h:W.heap[g]? = some (.cells #[.int .i64 a,.int .i64 b,.int .i64 c] 3 (0,0))):Kd.C (Kd.int .i64) W (some ⟨g,0,none⟩) ([a,b,c]:List Int).length [a,b,c]:=by
 have one:∀ (j:Nat) (p:Int),W.cell? ⟨g,j,none⟩ = some (.int .i64 p)→∀ i u,([Value.int .i64 p]:List Value)[i]? = some u→W.cell? ((⟨g,0,none⟩:Addr).add (j * 1 + i)) = some u:=by
  intro j p hc i u hu
  match i,hu with
  | 0,hu=>
   injection hu with hu
   subst hu
   have e:(⟨g,0,none⟩:Addr).add (j * 1 + 0) = ⟨g,j,none⟩:=by
    unfold Addr.add
    split
    ·rename_i h0
     rw [Nat.mul_one,Nat.add_zero] at h0
     rw [h0]
    ·simp
   rw [e];exact hc
  | i + 1,hu=>cases hu
 refine ⟨rfl,(show 3 ≤ 9223372036854775807 by decide),fun _=>⟨⟨g,0,none⟩,rfl,fun j p hj=>?_⟩⟩
 match j,hj with
 | 0,hj=>injection hj with hj;subst hj;exact ⟨[.int .i64 a],rfl,rfl,one 0 a ((blk_cell h 0).trans rfl)⟩
 | 1,hj=>injection hj with hj;subst hj;exact ⟨[.int .i64 b],rfl,rfl,one 1 b ((blk_cell h 1).trans rfl)⟩
 | 2,hj=>injection hj with hj;subst hj;exact ⟨[.int .i64 c],rfl,rfl,one 2 c ((blk_cell h 2).trans rfl)⟩
 | j + 3,hj=>cases hj
theorem or_calls {W:World} {g:Nat} {a b c:Int} (h:W.heap[g]? = some (.cells #[.int .i64 a,.int .i64 b,.int .i64 c] 3 (0,0))):Calls Tryz.prog 21 #[.slice (some ⟨g,0,none⟩) 3 3] W fun e w'=>e = .returned (.int .i64 (or3 a b c))∧Drawn0 W w':=
 cmp_Or_int.calls 4 (some ⟨g,0,none⟩) 3 [a,b,c] _ W (C3 h) (Nat.le_of_eq rfl) (or3_f a b c)
set_option maxHeartbeats 4000000 in
set_option maxRecDepth 100000 in
theorem closure20 (x y:Ar) (w:World):Calls Tryz.prog 20 #[.agg #[.int .i64 x.key,.int .i64 x.idx,.int .i64 x.cpy],.agg #[.int .i64 y.key,.int .i64 y.idx,.int .i64 y.cpy]] w fun e w'=>e = .returned (.int .i64 (cfA x y))∧GrW w w':=by
 obtain ⟨x0,x1,x2⟩:=x
 obtain ⟨y0,y1,y2⟩:=y
 dsimp only
 have HCF:Aside0 (cfA ⟨x0,x1,x2⟩ ⟨y0,y1,y2⟩ = or3 (cfI x0 y0) (cfI x1 y1) (cfI x2 y2)):=⟨rfl⟩
 generalize cfA ⟨x0,x1,x2⟩ ⟨y0,y1,y2⟩ = cf at HCF ⊢
 go_enter Tryz.func20,Tryz.ntmps20
 go_upto_region 1 with fail
 have hn0:=blk_new w (Obj.cells #[.int .i64 x0,.int .i64 x1,.int .i64 x2] 85)
 have hg0:=(GrW.refl w).alloc (Obj.cells #[.int .i64 x0,.int .i64 x1,.int .i64 x2] 85)
 have hs0:(w.alloc (Obj.cells #[.int .i64 x0,.int .i64 x1,.int .i64 x2] 85)).heap.size = w.heap.size + 1:=by simp
 generalize w.alloc (Obj.cells #[.int .i64 x0,.int .i64 x1,.int .i64 x2] 85) = wa at hn0 hg0 hs0 ⊢
 have hn1:=blk_new wa (Obj.cells #[.int .i64 y0,.int .i64 y1,.int .i64 y2] 85)
 have hn0:=blk_below hn0 (below_alloc (Below.refl wa.heap.size wa) (Obj.cells #[.int .i64 y0,.int .i64 y1,.int .i64 y2] 85))
 replace hg0:=hg0.alloc (Obj.cells #[.int .i64 y0,.int .i64 y1,.int .i64 y2] 85)
 rw [hs0] at hn1
 generalize wa.alloc (Obj.cells #[.int .i64 y0,.int .i64 y1,.int .i64 y2] 85) = v0 at hn0 hn1 hg0 ⊢
 have HG0:=Aside0.mk hg0
 clear hg0 hs0
 have p0:v0.cell? ⟨w.heap.size,0,none⟩ = some (.int .i64 x0):=(blk_cell hn0 0).trans rfl
 have p1:v0.cell? ⟨w.heap.size,1,none⟩ = some (.int .i64 x1):=(blk_cell hn0 1).trans rfl
 have p2:v0.cell? ⟨w.heap.size,2,none⟩ = some (.int .i64 x2):=(blk_cell hn0 2).trans rfl
 have r0:v0.cell? ⟨w.heap.size + 1,0,none⟩ = some (.int .i64 y0):=(blk_cell hn1 0).trans rfl
 have r1:v0.cell? ⟨w.heap.size + 1,1,none⟩ = some (.int .i64 y1):=(blk_cell hn1 1).trans rfl
 have r2:v0.cell? ⟨w.heap.size + 1,2,none⟩ = some (.int .i64 y2):=(blk_cell hn1 2).trans rfl
 clear hn0 hn1
 generalize w.heap.size = g0 at p0 p1 p2 r0 r1 r2 ⊢
 refine start_ (n:=18) (S:=fun w'=>GrW v0 w') (ds:=[]) (bq 18 0) (by kernel_rfl) rfl rfl GrW.drew (fun hHeld=>?_)
 refine with_tabW aoT.tab1 aoT.bits1 (fun HT_ HW_=>?_)
 generalize v0.drew = wd at hHeld ⊢
 refine pu_ 0 (some 5) (bq 18 1) HT_ rfl rfl ?_
 refine tk_ 1 (some 6) (bq 18 3) HT_ HW_ rfl rfl hHeld ?_ (by intro w' hS;replace p0:=below_at hS.below p0;go_simp;with_reducible rfl)
 refine pu_ 2 (some 7) (bq 18 7) HT_ rfl rfl ?_
 refine tk_ 3 (some 8) (bq 18 15) HT_ HW_ rfl rfl hHeld ?_ (by intro w' hS;replace r0:=below_at hS.below r0;go_simp;with_reducible rfl)
 refine pu_ 5 (some 10) (bq 18 47) HT_ rfl rfl ?_
 refine tk_ 6 (some 11) (bq 18 111) HT_ HW_ rfl rfl hHeld ?_ (by intro w' hS;replace p1:=below_at hS.below p1;go_simp;with_reducible rfl)
 refine pu_ 7 (some 12) (bq 18 239) HT_ rfl rfl ?_
 refine tk_ 8 (some 13) (bq 18 495) HT_ HW_ rfl rfl hHeld ?_ (by intro w' hS;replace r1:=below_at hS.below r1;go_simp;with_reducible rfl)
 refine pu_ 10 (some 15) (bq 18 1519) HT_ rfl rfl ?_
 refine tk_ 11 (some 16) (bq 18 3567) HT_ HW_ rfl rfl hHeld ?_ (by intro w' hS;replace p2:=below_at hS.below p2;go_simp;with_reducible rfl)
 refine pu_ 12 (some 17) (bq 18 7663) HT_ rfl rfl ?_
 refine tk_ 13 (some 18) (bq 18 15855) HT_ HW_ rfl rfl hHeld ?_ (by intro w' hS;replace r2:=below_at hS.below r2;go_simp;with_reducible rfl)
 refine one_ (i:=4) (N:=some 9) (bq 18 15871) rfl rfl (one_of HT_.out (by kernel_rfl)) (by decide) (fun K hK=>?_)
 refine goes_ Tryz.func22 (by kernel_rfl) rfl #[.int .i64 x0,.int .i64 y0] (by rfl) rfl rfl (by (try simp only [List.map_toArray,List.map_cons,List.map_nil]);first | done | rfl) ?_
 with_reducible refine (cmpi_calls x0 y0 _).mono ?_
 rintro e wb ⟨rfl,hd⟩
 refine ⟨_,rfl,?_⟩
 replace hHeld:=hHeld.drawn hd
 clear hd
 refine hK.out _ _ hHeld (fun hHeld=>?_)
 clear hK K
 refine norm_ (a':=?_) ?_ ?_
 rotate_left
 ·show Act.put _ (some 9) _ = _
  simp only [Act.put,List.setIfInBounds_toArray,List.set_cons_zero,List.set_cons_succ,i64_w,i32_w]
  rfl
 refine one_ (i:=9) (N:=some 14) (bq 18 16383) rfl rfl (one_of HT_.out (by kernel_rfl)) (by decide) (fun K hK=>?_)
 refine goes_ Tryz.func22 (by kernel_rfl) rfl #[.int .i64 x1,.int .i64 y1] (by rfl) rfl rfl (by (try simp only [List.map_toArray,List.map_cons,List.map_nil]);first | done | rfl) ?_
 with_reducible refine (cmpi_calls x1 y1 _).mono ?_
 rintro e wc ⟨rfl,hd⟩
 refine ⟨_,rfl,?_⟩
 replace hHeld:=hHeld.drawn hd
 clear hd
 refine hK.out _ _ hHeld (fun hHeld=>?_)
 clear hK K
 refine norm_ (a':=?_) ?_ ?_
 rotate_left
 ·show Act.put _ (some 14) _ = _
  simp only [Act.put,List.setIfInBounds_toArray,List.set_cons_zero,List.set_cons_succ,i64_w,i32_w]
  rfl
 refine one_ (i:=14) (N:=some 19) (bq 18 32767) rfl rfl (one_of HT_.out (by kernel_rfl)) (by decide) (fun K hK=>?_)
 refine goes_ Tryz.func22 (by kernel_rfl) rfl #[.int .i64 x2,.int .i64 y2] (by rfl) rfl rfl (by (try simp only [List.map_toArray,List.map_cons,List.map_nil]);first | done | rfl) ?_
 with_reducible refine (cmpi_calls x2 y2 _).mono ?_
 rintro e we ⟨rfl,hd⟩
 refine ⟨_,rfl,?_⟩
 replace hHeld:=hHeld.drawn hd
 clear hd
 refine hK.out _ _ hHeld (fun hHeld=>?_)
 clear hK K
 refine norm_ (a':=?_) ?_ ?_
 rotate_left
 ·show Act.put _ (some 19) _ = _
  simp only [Act.put,List.setIfInBounds_toArray,List.set_cons_zero,List.set_cons_succ,i64_w,i32_w]
  rfl
 refine one_ (i:=15) (N:=some 20) (bq 18 65535) rfl rfl (one_of HT_.out (by kernel_rfl)) (by decide) (fun K hK=>?_)
 refine event_step (w1:=World.alloc we (Obj.cells #[.int .i64 (cfI x0 y0),.int .i64 (cfI x1 y1),.int .i64 (cfI x2 y2)] 3)) (v:=.slice (some ⟨we.heap.size,0,none⟩) 3 3) (by rfl) (by go_simp) ?_
 refine hK.out _ _ (hHeld.alloc _) (fun hHeld=>?_)
 clear hK K
 refine norm_ (a':=?_) ?_ ?_
 rotate_left
 ·show Act.put _ (some 20) _ = _
  simp only [Act.put,List.setIfInBounds_toArray,List.set_cons_zero,List.set_cons_succ,i64_w,i32_w]
  rfl
 have hcb:=blk_new we (Obj.cells #[.int .i64 (cfI x0 y0),.int .i64 (cfI x1 y1),.int .i64 (cfI x2 y2)] 3)
 refine one_ (i:=16) (N:=some 21) (bq 18 131071) rfl rfl (one_of HT_.out (by kernel_rfl)) (by decide) (fun K hK=>?_)
 refine goes_ Tryz.func21 (by kernel_rfl) rfl #[.slice (some ⟨we.heap.size,0,none⟩) 3 3] (by rfl) rfl rfl (by (try simp only [List.map_toArray,List.map_cons,List.map_nil]);first | done | rfl) ?_
 with_reducible refine (or_calls hcb).mono ?_
 rintro e wf ⟨rfl,hd⟩
 refine ⟨_,rfl,?_⟩
 replace hHeld:=hHeld.drawn hd
 clear hd
 refine hK.out _ _ hHeld (fun hHeld=>?_)
 clear hK K
 refine norm_ (a':=?_) ?_ ?_
 rotate_left
 ·show Act.put _ (some 21) _ = _
  simp only [Act.put,List.setIfInBounds_toArray,List.set_cons_zero,List.set_cons_succ,i64_w,i32_w]
  rfl
 refine pu_ 17 (some 4) (bq 18 262143) HT_ rfl rfl ?_
 refine done_ (done_of HT_.out (by kernel_rfl)) ?_
 clear hcb
 go_wp2_with fail
 go_ret
 exact ⟨by rw [HCF.out];rfl,HG0.out.trans hHeld⟩
theorem ltA_lays (blk off size:Nat) (w:World):CmpLays Tryz.prog 20 #[] encA 3 cfA blk off size w:=fun _ _ _ _ x y=>(closure20 x y _).mono fun _ _ ⟨he,hw⟩=>⟨he,hw.out⟩
def arc:List Ar→List Value
 | []=>[]
 | x::r=>encA x ++ arc r
theorem arc_len (l:List Ar):(arc l).length = l.length * 3:=by
 induction l with
 | nil=>rfl
 | cons a r ih=>simp only [arc,encA,List.length_append,List.length_cons,List.length_nil,ih];omega
theorem arc_snoc (l:List Ar) (x:Ar):arc (l ++ [x]) = arc l ++ encA x:=by
 induction l with
 | nil=>simp [arc]
 | cons a r ih=>simp only [List.cons_append,arc,ih,List.append_assoc]
theorem arc_get (l:List Ar) (j i:Nat) (hj:j < l.length) (hi:i < 3):(arc l)[j * 3 + i]? = (encA l[j])[i]?:=by
 induction l generalizing j with
 | nil=>simp at hj
 | cons a r ih=>
  cases j with
  | zero=>simp only [arc,Nat.zero_mul,Nat.zero_add];rw [List.getElem?_append_left (by simp [encA];omega)];rfl
  | succ j=>
   simp only [arc]
   rw [List.getElem?_append_right (by simp [encA];omega),show (j + 1) * 3 + i - (encA a).length = j * 3 + i from by simp [encA];omega,ih j (by simpa using hj)]
   rfl
theorem arc_flat (l:List Ar):Go.Sort.flatK encA 3 l.toArray = (arc l).toArray:=by
 refine Array.ext' (List.ext_getElem? fun t=>?_)
 show (Go.Sort.flatK encA 3 l.toArray).toList[t]? = (arc l)[t]?
 rw [Array.getElem?_toList]
 by_cases ht:t < l.length * 3
 ·have hq:t / 3 < l.length:=by omega
  have hr:t % 3 < 3:=Nat.mod_lt _ (by decide)
  have h1:=arc_get l (t / 3) (t % 3) hq hr
  rw [show t / 3 * 3 + t % 3 = t from by omega] at h1
  rw [h1]
  unfold Go.Sort.flatK
  have e2:(encA l[t / 3])[t % 3]? = some ((encA l[t / 3])[t % 3]!):=by rw [List.getElem!_eq_getElem?_getD,List.getElem?_eq_getElem (by simp [encA];exact hr)];rfl
  rw [e2]
  simp [ht,hq]
 ·rw [Array.getElem?_eq_none (by unfold Go.Sort.flatK;simp;omega),List.getElem?_eq_none (by rw [arc_len];omega)]
theorem holds_arc {w:World} {g:Nat} {cur:Array Value} {e:TypeId} {l:List Ar} (hb:w.heap[g]? = some (.cells cur e (0,0))) (ht:cur.toList.take (l.length * 3) = arc l):Go.Sort.HoldsK encA 3 w g 0 l.toArray:=by
 unfold Go.Sort.HoldsK
 rw [arc_flat]
 intro j hj
 have hj':j < l.length * 3:=by have:=arc_len l;simpa [this] using hj
 refine ⟨?_,by simp [World.frozen?,hb]⟩
 have h1:(cur.toList.take (l.length * 3))[j]? = (arc l)[j]?:=by rw [ht]
 rw [List.getElem?_take_of_lt hj',Array.getElem?_toList] at h1
 rw [Nat.zero_add,cell_of_row _ g j _ e (0,0) hb,h1]
 have hl:j < (arc l).length:=by rw [arc_len];exact hj'
 simp [hl]
theorem heap_sortedA {w:World} {g n:Nat} {os:Array Obj} {cur:Array Value} {e:TypeId} {fr:Nat × Nat} (d:Array Value) (hb:w.heap[g]? = some (.cells cur e fr)):
  (Go.Sort.grow (Go.Sort.putRow id (Go.Sort.ahead w n) g 0 d) os).heap[g]? = some (.cells (Go.Sort.putCells id 0 d cur) e fr):=by
 have hg:g < w.heap.size:=(Array.getElem?_eq_some_iff.1 hb).1
 rw [Go.Sort.heap_grow_old _ _ (by simpa using hg)]
 simp [Go.Sort.putRow,Go.Sort.mapBlock,Go.Sort.ahead,Array.getElem?_modify,hb,Go.Sort.onCells]
theorem grownBy_sortedA {w:World} {g n:Nat} {os:Array Obj} (d:Array Value):w.grownBy (Go.Sort.grow (Go.Sort.putRow id (Go.Sort.ahead w n) g 0 d) os) (some g):=by
 refine ⟨rfl,rfl,rfl,by simp,fun k hk hne=>?_⟩
 rw [Go.Sort.heap_grow_old _ _ (by simpa using hk)]
 have:g ≠ k:=fun e=>hne (by rw [e])
 simp [Go.Sort.putRow,Go.Sort.mapBlock,Go.Sort.ahead,Array.getElem?_modify,this]
theorem take_putCellsA (cur:Array Value) (ts:List Value) (h:ts.length ≤ cur.size):(Go.Sort.putCells id 0 ts.toArray cur).toList.take ts.length = ts:=by
 apply List.ext_getElem?
 intro j
 by_cases hj:j < ts.length
 ·rw [List.getElem?_take_of_lt hj,Array.getElem?_toList]
  simp [Go.Sort.putCells,hj,show j < cur.size by omega]
 ·rw [List.getElem?_take_eq_none (by omega),List.getElem?_eq_none (by omega)]
theorem sortA_calls (v:Value) (l:List Ar) (base:Nat) (w:World) (ho:w.ownsRow base 85 3 v l.length (arc l)) (hl:l.length ≤ 100000000) (hb:base ≤ w.heap.size):
  Calls Tryz.prog 19 #[v,.func (.func 20) #[] #[]] w fun e w'=>e = .returned (.tuple #[])∧w'.ownsRow base 85 3 v l.length (arc (arSort l []))∧Below base w w':=by
 rcases ho.2 with ⟨rfl,hn⟩ | ⟨g,cap,cur,rfl,hg,hcur,hn,hcap,hsz,htk⟩
 ·obtain rfl:=List.eq_nil_of_length_eq_zero hn
  refine (AnyF.slices_SortFunc_none { laysSortf with } none 0 (.func (.func 20) #[] #[]) w).mono ?_
  rintro e w' ⟨rfl,rfl⟩
  exact ⟨rfl,ho,Below.refl _ _⟩
 ·have hH:=holds_arc hcur htk
  have hgl:=blk_lt hcur
  refine (AnyQ.slices_SortFunc_total laysSortf 3 Tryz.isAgg85 Tryz.sizeOf85 encA (fun _=>rfl) (fun x v hv=>by simp [encA] at hv;rcases hv with rfl | rfl | rfl <;> rfl) cfA swoA 20 #[] g 0 cap l.toArray w (enters_of Tryz.func20 (by kernel_rfl) rfl) (ltA_lays _ _ _ _) hH hgl (by simp;omega) totA).mono ?_
  rintro e w' ⟨rfl,n,os,rfl⟩
  have e1:(l.toArray.toList.mergeSort fun x y=>!ltOf cfA y x) = arSort l []:=by rw [List.toList_toArray];exact merge_arSort l
  rw [e1]
  unfold sortWorldK Go.Sort.putRowK
  rw [arc_flat]
  have hlen:(arSort l []).length = l.length:=by have:=(arSort_perm l []).length_eq;simpa using this
  refine ⟨rfl,⟨by rw [arc_len,hlen],.inr ⟨g,cap,_,rfl,hg,heap_sortedA _ hcur,hn,hcap,by simp [Go.Sort.putCells,hsz],?_⟩⟩,(Below.refl base w).grown (grownBy_sortedA _) hb (by intro k hk;injection hk with hk;omega)⟩
  rw [← hlen,← arc_len]
  exact take_putCellsA cur _ (by rw [arc_len,hlen,hsz];omega)
end Go.Proofs.YtdadnapfecmmdaaGreat.P
namespace Go.Proofs.YtdadnapfecmmdaaGreat.P
set_option linter.unusedVariables false
set_option linter.unusedSimpArgs false
open Go.RowKit Go.Proofs.YtdadnapfecmmdaaGreatW.PrintWords Go.Proofs.YtdadnapfecmmdaaGreatW.PrintLast Go.Proofs.YtdadnapfecmmdaaGreatW.PrintMore
open Go.Proofs.YtdadnapfecmmdaaGreat.Hm
def awT.T8:Bool × List (List Nat × List Nat):=(true,[([],[]),([],[]),([0,1],[0,1]),([2],[2]),([],[]),([4],[4]),([3,5],[3,5])])
def awT.B8:List Nat:=[0,0,3,7,0,16,63]
theorem awT.tab8:rtab .any (opsOf Tryz.f6 8) = awT.T8:=by kernel_rfl
theorem awT.bits8:waitsOk awT.T8.2 awT.B8 = true:=by kernel_rfl
def awT.T10:Bool × List (List Nat × List Nat):=(true,[([],[]),([],[]),([0,1],[0,1]),([2],[2]),([],[]),([4],[4]),([3,5],[3,5])])
def awT.B10:List Nat:=[0,0,3,7,0,16,63]
theorem awT.tab10:rtab .any (opsOf Tryz.f6 10) = awT.T10:=by kernel_rfl
theorem awT.bits10:waitsOk awT.T10.2 awT.B10 = true:=by kernel_rfl
theorem info85:(Tryz.prog.info? 85).map (fun i=>(i.zero,i.size,i.bytes)) = some (some (.agg #[(.int .i64 0),(.int .i64 0),(.int .i64 0)]),3,24):=by kernel_rfl
theorem arrsTo_once (seed loss rep:Int) (n:Nat) (h:arLost seed loss n = false) (h2:arTwice seed rep n = false):arrsTo seed loss rep (n + 1) = arrsTo seed loss rep n ++ [arOne seed n 0]:=by
 show arrsTo seed loss rep n ++ arr1 seed loss rep n = _
 unfold arr1;rw [if_neg (by rw [h];decide),if_neg (by rw [h2];decide)];rfl
theorem arrsTo_twice (seed loss rep:Int) (n:Nat) (h:arLost seed loss n = false) (h2:arTwice seed rep n = true):arrsTo seed loss rep (n + 1) = (arrsTo seed loss rep n ++ [arOne seed n 0]) ++ [arOne seed n 1]:=by
 show arrsTo seed loss rep n ++ arr1 seed loss rep n = _
 unfold arr1;rw [if_neg (by rw [h];decide),if_pos h2,List.append_assoc];rfl
theorem arrsTo_lost (seed loss rep:Int) (n:Nat) (h:arLost seed loss n = true):arrsTo seed loss rep (n + 1) = arrsTo seed loss rep n:=by
 show arrsTo seed loss rep n ++ arr1 seed loss rep n = _
 unfold arr1;rw [if_pos h,List.append_nil]
theorem frc_get (xs:List (Fr × Value)) (j i:Nat) (hj:j < xs.length) (hi:i < 4):(frc xs)[j * 4 + i]? = ([.int .i64 xs[j].1.agent,.int .i64 xs[j].1.seq,xs[j].2,.slice none 0 0]:List Value)[i]?:=by
 rw [← frc_at xs j hj,List.getElem?_take,if_pos hi,List.getElem?_drop]
theorem own_len_le {W:World} {base n sz m:Nat} {e:TypeId} {A:Option Addr} {cp:Nat} {ys:List Value} (h:W.ownsRow base e sz (.slice A m cp) n ys) (hn:0 < n):∃ r,A = some ⟨r,0,none⟩∧m = n:=by
 rcases h.2 with ⟨_,h0⟩ | ⟨r,cap,cur,e',_⟩
 ·omega
 ·injection e' with e1 e2 _;exact ⟨r,e1,e2⟩
set_option maxHeartbeats 8000000 in
set_option maxRecDepth 100000 in
theorem arr_of (c:Cfg) (p:CfgAt) (w:World) (hR:CfgR w p c) (L:List Fr) (hLL:L.length ≤ 10000000) (hL1:∀ f ∈ L,0 < f.l.length∧f.l.length ≤ 64) (hS:∀ W,CfgR W p c→Calls Tryz.prog 5 #[c.val p] W fun e w'=>∃ v,e = .returned (.tuple #[v,.int .i64 0])∧FsOut W.heap.size w' L v∧Below W.heap.size W w'):
  Calls Tryz.prog 6 #[c.val p] w fun e w'=>∃ v,e = .returned (.tuple #[v,.int .i64 0])∧FsOut w.heap.size w' (arrive L (arL c.seed c.loss c.rep L.length)) v∧Below w.heap.size w w':=by
 have HS:=Aside0.mk hS
 have HL1:=Aside0.mk hL1
 clear hS hL1
 obtain ⟨A1,c1,A2,c2,A3,c3,A4,c4⟩:=p
 have HR:=Aside0.mk hR
 have HX:=Aside0.mk (blk_new w (.cells (c.cells ⟨A1,c1,A2,c2,A3,c3,A4,c4⟩) 36))
 have HB:=Aside0.mk (below_alloc (Below.refl w.heap.size w) (.cells (c.cells ⟨A1,c1,A2,c2,A3,c3,A4,c4⟩) 36))
 clear hR
 go_enter Tryz.func6,Tryz.ntmps6
 go_upto_region 1 with fail
 generalize w.alloc (.cells (c.cells ⟨A1,c1,A2,c2,A3,c3,A4,c4⟩) 36) = v0 at HX HB ⊢
 obtain ⟨q0,q1,q2,q3,q4,q5,q6,q7,q8,q9,q10,q11⟩:=cfg12 HX.out
 go_upto_region 2 with (go_at_call 5;refine (HS.out _ (HR.out.below HB.out)).mono ?_;rintro e w1 ⟨v,rfl,hfo,hb⟩;obtain ⟨xsF,hxf,hrow,hfs⟩:=hfo;have HXF:=Aside0.mk hxf;have HFR:=Aside0.mk hrow;have HFS:=Aside0.mk hfs;have HHB:=Aside0.mk hb;clear hxf hrow hfs hb q0 q1 q2 q3 q4 q5 q6 q7 q8 q9 q10 q11)
 replace HX:=Aside0.mk (blk_below HX.out HHB.out)
 replace HB:=Aside0.mk (below_step HB.out HHB.out)
 replace HR:=Aside0.mk (HR.out.below HB.out)
 clear HHB HS
 obtain ⟨AF,cF,rfl⟩:=own_slice HFR.out
 have hxl:xsF.length = L.length:=by rw [← HXF.out,List.length_map]
 rw [hxl]
 have HXL:=Aside0.mk hxl
 clear hxl
 go_wp2_with fail
 go_loopg [6,22] L.length (fun gg s6 s22 wr=>∃ (i:Nat) (l:List Ar) (A:Option Addr) (cp:Nat),s6 = .slice A l.length cp∧s22 = .int .i64 (i:Int)∧i ≤ L.length∧L.length - i ≤ gg∧Aside0 (arrsTo c.seed c.loss c.rep i = l)∧Aside0 (wr.ownsRow w1.heap.size 85 3 (.slice A l.length cp) l.length (arc l))∧Aside0 (Below w1.heap.size w1 wr))
 case atStart=>exact ⟨0,[],none,0,by rfl,by rfl,by omega,by omega,⟨rfl⟩,⟨⟨rfl,.inl ⟨rfl,rfl⟩⟩⟩,⟨Below.refl _ _⟩⟩
 case round=>
  obtain ⟨i,l,A,cp,rfl,rfl,hi,hgi,HAS,HO,HBL⟩:=hrel
  by_cases hlt:i < L.length
  ·have hz1:(i:Int) < (L.length:Int):=by omega
   have s1:IntKind.i64.wrap ((i:Int) + 1) = (i:Int) + 1:=IntWalk.i64_in _ (by omega)
   have hal:l.length ≤ 20000000:=by rw [← HAS.out];have:=arrsTo_len c.seed c.loss c.rep i;omega
   obtain ⟨q0,q1,q2,q3,q4,q5,q6,q7,q8,q9,q10,q11⟩:=cfg12 (blk_below HX.out HBL.out)
   go_upto_region 8 with fail
   have s5:(rollV c.seed (i:Int) 0 5).tmod 1000000 = rollV c.seed (i:Int) 0 5 % 1000000:=roll_tmod _ _ _ _ _
   refine start_ (n:=7) (S:=fun w'=>Below wr.heap.size wr w') (ds:=[]) (bq 7 0) (by kernel_rfl) rfl rfl (Below.refl _ _).drew (fun hHeld=>?_)
   refine with_tabW awT.tab8 awT.bits8 (fun HT_ HW_=>?_)
   generalize wr.drew = wd at hHeld ⊢
   refine tk_ 0 (some 25) (bq 7 1) HT_ HW_ rfl rfl hHeld ?_ (by intro w' hS;replace q0:=below_at hS q0;replace q1:=below_at hS q1;replace q2:=below_at hS q2;replace q3:=below_at hS q3;replace q4:=below_at hS q4;replace q5:=below_at hS q5;replace q6:=below_at hS q6;replace q7:=below_at hS q7;replace q8:=below_at hS q8;replace q9:=below_at hS q9;replace q10:=below_at hS q10;replace q11:=below_at hS q11;go_simp;with_reducible rfl)
   refine pu_ 1 (some 26) (bq 7 3) HT_ rfl rfl ?_
   refine pu_ 4 (some 29) (bq 7 19) HT_ rfl rfl ?_
   refine tk_ 5 (some 30) (bq 7 51) HT_ HW_ rfl rfl hHeld ?_ (by intro w' hS;replace q10:=below_at hS q10;go_simp;with_reducible rfl)
   refine one_ (i:=2) (N:=some 27) (bq 7 55) rfl rfl (one_of HT_.out (by kernel_rfl)) (by decide) (fun K hK=>?_)
   refine goes_ Tryz.func18 (by kernel_rfl) rfl #[c.val ⟨A1,c1,A2,c2,A3,c3,A4,c4⟩,.int .i64 (i:Int),.int .i64 0,.int .i64 5] (by rfl) rfl rfl (by (try simp only [List.map_toArray,List.map_cons,List.map_nil]);first | done | rfl) ?_
   with_reducible refine (roll_calls c ⟨A1,c1,A2,c2,A3,c3,A4,c4⟩ (i:Int) 0 5 _ (HR.out.below (below_step HBL.out hHeld))).mono ?_
   rintro e wx ⟨rfl,hb⟩
   refine ⟨_,rfl,?_⟩
   replace hHeld:=below_step hHeld hb
   clear hb
   refine hK.out _ _ hHeld (fun hHeld=>?_)
   clear hK K
   refine norm_ (a':=?_) ?_ ?_
   rotate_left
   ·show Act.put _ (some 27) _ = _
    simp only [Act.put,List.setIfInBounds_toArray,List.set_cons_zero,List.set_cons_succ,i64_w,i32_w]
    rfl
   refine pu_ 3 (some 28) (bq 7 63) HT_ rfl rfl ?_
   refine pu_ 6 (some 31) (bq 7 127) HT_ rfl rfl ?_
   refine done_ (done_of HT_.out (by kernel_rfl)) ?_
   clear s5
   replace HO:=Aside0.mk (pw_own_below HO.out hHeld)
   replace HBL:=Aside0.mk (below_step HBL.out hHeld)
   clear hHeld q0 q1 q2 q3 q4 q5 q6 q7 q8 q9 q10 q11
   have HLOST:Aside0 (arLost c.seed c.loss i = decide (rollV c.seed (i:Int) 0 5 % 1000000 < c.loss)):=⟨rfl⟩
   generalize rollV c.seed (i:Int) 0 5 % 1000000 = z5 at HLOST ⊢
   by_cases hlost:z5 < c.loss
   ·have hz2:decide (z5 < c.loss) = true:=decide_eq_true hlost
    replace HLOST:=Aside0.mk (HLOST.out.trans hz2)
    go_wp2_with fail
    go_roundg (L.length - (i + 1))
    case measure=>omega
    case rel=>exact ⟨i + 1,l,A,cp,by rfl,by first | rfl | go_num,by omega,Nat.le_refl _,⟨by rw [arrsTo_lost _ _ _ _ HLOST.out];exact HAS.out⟩,HO,HBL⟩
   ·have hz2:decide (z5 < c.loss) = false:=decide_eq_false hlost
    replace HLOST:=Aside0.mk (HLOST.out.trans hz2)
    obtain ⟨q0,q1,q2,q3,q4,q5,q6,q7,q8,q9,q10,q11⟩:=cfg12 (blk_below HX.out HBL.out)
    go_upto_region 10 with (first | (go_at_call 18;refine (roll_calls c ⟨A1,c1,A2,c2,A3,c3,A4,c4⟩ (i:Int) 0 7 _ (HR.out.below HBL.out)).mono ?_;rintro e wy ⟨rfl,hb⟩;replace HO:=Aside0.mk (pw_own_below HO.out hb);replace HBL:=Aside0.mk (below_step HBL.out hb);have hvw:=HBL.out.size;clear hb q0 q1 q2 q3 q4 q5 q6 q7 q8 q9 q10 q11) | (at_builtin;go_must (refine print_append_cells (w0:=w1) w1.heap.size rfl _ _ 82 85 _ 3 24 rfl Tryz.underlying82 info85 rfl (by decide) (by decide) (.slice A l.length cp) l.length (arc l) [.int .i64 (rollV c.seed (i:Int) 0 7),.int .i64 (i:Int),.int .i64 0] rfl ?c4 rfl ?c1 HO.out HBL.out hvw ?c3 ?_;(case c1=>intro u hu;simp at hu;rcases hu with rfl | rfl | rfl <;> rfl);(case c4=>simp [go_sem]);(case c3=>omega);intro v1 wn hown1 hb1 hg1 hat1;obtain ⟨A9,c9,rfl⟩:=own_slice hown1;have HO1:=Aside0.mk hown1;have HB1:=Aside0.mk hb1;clear hown1 hg1 hat1 hb1 HO HBL hvw)))
    have HO:Aside0 (wn.ownsRow w1.heap.size 85 3 (.slice A9 (l ++ [arOne c.seed i 0]).length c9) (l ++ [arOne c.seed i 0]).length (arc (l ++ [arOne c.seed i 0]))):=⟨by rw [List.length_append,arc_snoc];exact HO1.out⟩
    have HLN:Aside0 ((l ++ [arOne c.seed i 0]).length = l.length + 1):=⟨by rw [List.length_append];rfl⟩
    clear HO1
    obtain ⟨q0,q1,q2,q3,q4,q5,q6,q7,q8,q9,q10,q11⟩:=cfg12 (blk_below HX.out HB1.out)
    have HBL:=HB1
    have s5:(rollV c.seed (i:Int) 0 6).tmod 1000000 = rollV c.seed (i:Int) 0 6 % 1000000:=roll_tmod _ _ _ _ _
    refine start_ (n:=7) (S:=fun w'=>Below wn.heap.size wn w') (ds:=[]) (bq 7 0) (by kernel_rfl) rfl rfl (Below.refl _ _).drew (fun hHeld=>?_)
    refine with_tabW awT.tab10 awT.bits10 (fun HT_ HW_=>?_)
    generalize wn.drew = wd2 at hHeld ⊢
    refine tk_ 0 (some 40) (bq 7 1) HT_ HW_ rfl rfl hHeld ?_ (by intro w' hS;replace q0:=below_at hS q0;replace q1:=below_at hS q1;replace q2:=below_at hS q2;replace q3:=below_at hS q3;replace q4:=below_at hS q4;replace q5:=below_at hS q5;replace q6:=below_at hS q6;replace q7:=below_at hS q7;replace q8:=below_at hS q8;replace q9:=below_at hS q9;replace q10:=below_at hS q10;replace q11:=below_at hS q11;go_simp;with_reducible rfl)
    refine pu_ 1 (some 41) (bq 7 3) HT_ rfl rfl ?_
    refine pu_ 4 (some 44) (bq 7 19) HT_ rfl rfl ?_
    refine tk_ 5 (some 45) (bq 7 51) HT_ HW_ rfl rfl hHeld ?_ (by intro w' hS;replace q11:=below_at hS q11;go_simp;with_reducible rfl)
    refine one_ (i:=2) (N:=some 42) (bq 7 55) rfl rfl (one_of HT_.out (by kernel_rfl)) (by decide) (fun K hK=>?_)
    refine goes_ Tryz.func18 (by kernel_rfl) rfl #[c.val ⟨A1,c1,A2,c2,A3,c3,A4,c4⟩,.int .i64 (i:Int),.int .i64 0,.int .i64 6] (by rfl) rfl rfl (by (try simp only [List.map_toArray,List.map_cons,List.map_nil]);first | done | rfl) ?_
    with_reducible refine (roll_calls c ⟨A1,c1,A2,c2,A3,c3,A4,c4⟩ (i:Int) 0 6 _ (HR.out.below (below_step HBL.out hHeld))).mono ?_
    rintro e wz ⟨rfl,hb⟩
    refine ⟨_,rfl,?_⟩
    replace hHeld:=below_step hHeld hb
    clear hb
    refine hK.out _ _ hHeld (fun hHeld=>?_)
    clear hK K
    refine norm_ (a':=?_) ?_ ?_
    rotate_left
    ·show Act.put _ (some 42) _ = _
     simp only [Act.put,List.setIfInBounds_toArray,List.set_cons_zero,List.set_cons_succ,i64_w,i32_w]
     rfl
    refine pu_ 3 (some 43) (bq 7 63) HT_ rfl rfl ?_
    refine pu_ 6 (some 46) (bq 7 127) HT_ rfl rfl ?_
    refine done_ (done_of HT_.out (by kernel_rfl)) ?_
    clear s5 HB1
    replace HO:=Aside0.mk (pw_own_below HO.out hHeld)
    replace HBL:=Aside0.mk (below_step HBL.out hHeld)
    clear hHeld q0 q1 q2 q3 q4 q5 q6 q7 q8 q9 q10 q11
    have HTW:Aside0 (arTwice c.seed c.rep i = decide (rollV c.seed (i:Int) 0 6 % 1000000 < c.rep)):=⟨rfl⟩
    generalize rollV c.seed (i:Int) 0 6 % 1000000 = z6 at HTW ⊢
    by_cases htw:z6 < c.rep
    ·have hz3:decide (z6 < c.rep) = true:=decide_eq_true htw
     replace HTW:=Aside0.mk (HTW.out.trans hz3)
     have HNX:Aside0 (arrsTo c.seed c.loss c.rep (i + 1) = (l ++ [arOne c.seed i 0]) ++ [arOne c.seed i 1]):=⟨by rw [arrsTo_twice _ _ _ _ HLOST.out HTW.out,HAS.out]⟩
     have hal2:(l ++ [arOne c.seed i 0]).length ≤ 20000001:=by rw [HLN.out];omega
     rw [← HLN.out]
     clear HLN HAS hal
     generalize l ++ [arOne c.seed i 0] = l2 at HO HNX hal2 ⊢
     obtain ⟨q0,q1,q2,q3,q4,q5,q6,q7,q8,q9,q10,q11⟩:=cfg12 (blk_below HX.out HBL.out)
     go_upto_region 12 with (first | (go_at_call 18;refine (roll_calls c ⟨A1,c1,A2,c2,A3,c3,A4,c4⟩ (i:Int) 1 7 _ (HR.out.below HBL.out)).mono ?_;rintro e wy ⟨rfl,hb⟩;replace HO:=Aside0.mk (pw_own_below HO.out hb);replace HBL:=Aside0.mk (below_step HBL.out hb);have hvw:=HBL.out.size;clear hb q0 q1 q2 q3 q4 q5 q6 q7 q8 q9 q10 q11) | (at_builtin;go_must (refine print_append_cells (w0:=w1) w1.heap.size rfl _ _ 82 85 _ 3 24 rfl Tryz.underlying82 info85 rfl (by decide) (by decide) (.slice A9 l2.length c9) l2.length (arc l2) [.int .i64 (rollV c.seed (i:Int) 1 7),.int .i64 (i:Int),.int .i64 1] rfl ?c4 rfl ?c1 HO.out HBL.out hvw ?c3 ?_;(case c1=>intro u hu;simp at hu;rcases hu with rfl | rfl | rfl <;> rfl);(case c4=>simp [go_sem]);(case c3=>omega);intro v1 wm hown1 hb1 hg1 hat1;obtain ⟨A8,c8,rfl⟩:=own_slice hown1;have HO1:=Aside0.mk hown1;have HB1:=Aside0.mk hb1;clear hown1 hg1 hat1 hb1 HO HBL hvw)))
     have HO:Aside0 (wm.ownsRow w1.heap.size 85 3 (.slice A8 (l2 ++ [arOne c.seed i 1]).length c8) (l2 ++ [arOne c.seed i 1]).length (arc (l2 ++ [arOne c.seed i 1]))):=⟨by rw [List.length_append,arc_snoc];exact HO1.out⟩
     go_wp2_with fail
     go_roundg (L.length - (i + 1))
     case measure=>omega
     case rel=>exact ⟨i + 1,l2 ++ [arOne c.seed i 1],A8,c8,by rw [List.length_append];rfl,by first | rfl | go_num,by omega,Nat.le_refl _,HNX,HO,HB1⟩
    ·have hz3:decide (z6 < c.rep) = false:=decide_eq_false htw
     replace HTW:=Aside0.mk (HTW.out.trans hz3)
     have HNX:Aside0 (arrsTo c.seed c.loss c.rep (i + 1) = l ++ [arOne c.seed i 0]):=⟨by rw [arrsTo_once _ _ _ _ HLOST.out HTW.out,HAS.out]⟩
     go_wp2_with fail
     go_roundg (L.length - (i + 1))
     case measure=>omega
     case rel=>exact ⟨i + 1,l ++ [arOne c.seed i 0],A9,c9,by rw [HLN.out],by first | rfl | go_num,by omega,Nat.le_refl _,HNX,HO,HBL⟩
  ·obtain rfl:i = L.length:=by omega
   have hz1:decide ((L.length:Int) < (L.length:Int)) = false:=by simp
   have hz2:decide (L.length < L.length) = false:=by simp
   have HMEM:Aside0 (∀ a ∈ arL c.seed c.loss c.rep L.length,∃ q:Nat,q < L.length∧a.idx = (q:Int)):=⟨fun a ha=>arL_mem c.seed c.loss c.rep L.length a ha⟩
   have hal:l.length ≤ 20000000:=by rw [← HAS.out];have:=arrsTo_len c.seed c.loss c.rep L.length;omega
   have HSL:Aside0 (arL c.seed c.loss c.rep L.length = arSort l []):=⟨by rw [← HAS.out];rfl⟩
   have hvw:=HBL.out.size
   go_upto_region 14 with (go_at_call 19;with_reducible refine (sortA_calls (.slice A l.length cp) l w1.heap.size _ HO.out (by omega) hvw).mono ?_;rintro e w2 ⟨rfl,hown,hb⟩;have HO3:=Aside0.mk hown;have HB2:=Aside0.mk (HBL.out.trans hb);clear hown hb)
   have hsl:(arSort l []).length = l.length:=by have:=(arSort_perm l []).length_eq;simpa using this
   rw [HSL.out] at HMEM
   clear HO HBL HAS hvw
   generalize arSort l [] = sl at HMEM HSL HO3 hsl ⊢
   have hal2:sl.length ≤ 20000000:=by omega
   rw [← hsl] at HO3 ⊢
   have HLS:=Aside0.mk hsl
   clear hsl hal
   go_wp2_with fail
   go_loopg [8,60] sl.length (fun gg s8 s60 wr=>∃ (j:Nat) (xs:List (Fr × Value)) (B:Option Addr) (cb:Nat),s8 = .slice B xs.length cb∧s60 = .int .i64 (j:Int)∧j ≤ sl.length∧sl.length - j ≤ gg∧Aside0 (xs.length = j)∧Aside0 (xs.map (·.1) = arrive L (sl.take j))∧Aside0 (wr.ownsRow w2.heap.size 81 4 (.slice B xs.length cb) xs.length (frc xs))∧Aside0 (RowsB wr w2.heap.size wr.heap.size (xs.map fun x=>(x.1.l,x.2)))∧Aside0 (Below w2.heap.size w2 wr))
   case atStart=>exact ⟨0,[],none,0,by rfl,by rfl,by omega,by omega,⟨rfl⟩,⟨rfl⟩,⟨⟨rfl,.inl ⟨rfl,rfl⟩⟩⟩,⟨fun x hx=>by cases hx⟩,⟨Below.refl _ _⟩⟩
   case round=>
    obtain ⟨j,xs,B,cb,rfl,rfl,hj,hgj,HXJ,HXM,HRW,HFB,HW⟩:=hrel
    by_cases hjl:j < sl.length
    ·have hz4:(j:Int) < (sl.length:Int):=by omega
     have sj1:IntKind.i64.wrap ((j:Int) + 1) = (j:Int) + 1:=IntWalk.i64_in _ (by omega)
     obtain ⟨rS,eS,_⟩:=own_len_le HO3.out (by omega)
     subst eS
     have p0:=(own_cells HO3.out (j * 3 + 0) (by omega)).trans (arc_get sl j 0 hjl (by omega))
     have p1:=(own_cells HO3.out (j * 3 + 1) (by omega)).trans (arc_get sl j 1 hjl (by omega))
     have p2:=(own_cells HO3.out (j * 3 + 2) (by omega)).trans (arc_get sl j 2 hjl (by omega))
     obtain ⟨qn,hqn,hqe⟩:=HMEM.out sl[j] (List.getElem_mem hjl)
     have HTJ:Aside0 (arrive L (sl.take (j + 1)) = arrive L (sl.take j) ++ [L.getD qn zFr]):=⟨by rw [List.take_succ_eq_append_getElem hjl];unfold arrive;rw [List.map_append,List.map_cons,List.map_nil,hqe];rfl⟩
     unfold encA at p0 p1 p2
     rw [hqe] at p1
     generalize sl[j] = s at p0 p1 p2
     clear hqe
     replace p0:w2.cell? ⟨rS,j * 3,none⟩ = some (.int .i64 s.key):=p0
     replace p1:w2.cell? ⟨rS,j * 3 + 1,none⟩ = some (.int .i64 (qn:Int)):=p1
     replace p2:w2.cell? ⟨rS,j * 3 + 2,none⟩ = some (.int .i64 s.cpy):=p2
     replace p0:=below_at HW.out p0
     replace p1:=below_at HW.out p1
     replace p2:=below_at HW.out p2
     have hB12:=below_then HB2.out HB2.out.size HW.out
     have hql:qn < xsF.length:=by have:=HXL.out;omega
     obtain ⟨rF,eF,_⟩:=own_len_le HFR.out (by omega)
     subst eF
     have g0:=(own_cells HFR.out (qn * 4 + 0) (by omega)).trans (frc_get xsF qn 0 hql (by omega))
     have g1:=(own_cells HFR.out (qn * 4 + 1) (by omega)).trans (frc_get xsF qn 1 hql (by omega))
     have g2:=(own_cells HFR.out (qn * 4 + 2) (by omega)).trans (frc_get xsF qn 2 hql (by omega))
     have g3:=(own_cells HFR.out (qn * 4 + 3) (by omega)).trans (frc_get xsF qn 3 hql (by omega))
     have hro:=(HFS.out (xsF[qn].1.l,xsF[qn].2) (List.mem_map_of_mem (f:=fun x:Fr × Value=>(x.1.l,x.2)) (List.getElem_mem hql))).1
     dsimp only at hro
     have hLq:L.getD qn zFr = xsF[qn].1:=by
      have:=HXF.out
      subst this
      simp [List.getD_eq_getElem?_getD,hql]
     have hl1:=HL1.out (xsF[qn].1) (by rw [← HXF.out];exact List.mem_map_of_mem (List.getElem_mem hql))
     rw [hLq] at HTJ
     clear hLq
     obtain ⟨Aq,cq,eq0⟩:=own_slice hro
     rw [eq0] at hro g2
     clear eq0
     generalize xsF[qn].1 = f at hro g0 g1 hl1 g2 HTJ
     obtain ⟨fa,fs,fl⟩:=f
     dsimp only at hro g0 g1 hl1 g2
     obtain ⟨rq,eq1,_⟩:=own_len_le hro hl1.1
     subst eq1
     replace g0:w1.cell? ⟨rF,qn * 4,none⟩ = some (.int .i64 fa):=g0
     replace g1:w1.cell? ⟨rF,qn * 4 + 1,none⟩ = some (.int .i64 fs):=g1
     replace g2:w1.cell? ⟨rF,qn * 4 + 2,none⟩ = some (.slice (some ⟨rq,0,none⟩) fl.length cq):=g2
     replace g3:w1.cell? ⟨rF,qn * 4 + 3,none⟩ = some (.slice none 0 0):=g3
     replace g0:=below_at hB12 g0
     replace g1:=below_at hB12 g1
     replace g2:=below_at hB12 g2
     replace g3:=below_at hB12 g3
     have HRQ:=Aside0.mk (pw_own_below hro hB12)
     have hqi:(qn:Int) < (L.length:Int):=by omega
     clear hro hB12 hql
     go_upto_region 18 with fail
     have hbs:=below_alloc (Below.refl wr.heap.size wr) (Obj.cells #[.int .i64 s.key,.int .i64 (qn:Int),.int .i64 s.cpy] 85)
     have hgn:=blk_new wr (Obj.cells #[.int .i64 s.key,.int .i64 (qn:Int),.int .i64 s.cpy] 85)
     obtain ⟨wa,hwa⟩:∃ wa,wa = wr.alloc (Obj.cells #[.int .i64 s.key,.int .i64 (qn:Int),.int .i64 s.cpy] 85):=⟨_,rfl⟩
     rw [← hwa] at hbs hgn ⊢
     have y1:wa.cell? ⟨wr.heap.size,1,none⟩ = some (.int .i64 (qn:Int)):=(blk_cell hgn 1).trans rfl
     replace g0:=below_at hbs g0
     replace g1:=below_at hbs g1
     replace g2:=below_at hbs g2
     replace g3:=below_at hbs g3
     replace HRW:=Aside0.mk (pw_own_below HRW.out hbs)
     replace HFB:=Aside0.mk ((HFB.out.below hbs).mono hbs.size)
     replace HRQ:=Aside0.mk (pw_own_below HRQ.out hbs)
     replace HW:=Aside0.mk (below_step HW.out hbs)
     clear hwa hbs hgn p0 p1 p2
     generalize wr.heap.size = ga at y1 ⊢
     go_upto_region 19 with fail
     have HNE:Aside0 (some wa.heap.size ≠ (Value.slice B xs.length cb).ownBlock):=⟨fun e=>by have:=own_lt HRW.out _ e.symm;omega⟩
     have HGE:=Aside0.mk HW.out.size
     have hbs:=below_alloc (Below.refl wa.heap.size wa) (Obj.cells #[.int .i64 fa,.int .i64 fs,.slice (some ⟨rq,0,none⟩) fl.length cq,.slice none 0 0] 81)
     have HG:=Aside0.mk (blk_new wa (Obj.cells #[.int .i64 fa,.int .i64 fs,.slice (some ⟨rq,0,none⟩) fl.length cq,.slice none 0 0] 81))
     obtain ⟨wb,hwb⟩:∃ wb,wb = wa.alloc (Obj.cells #[.int .i64 fa,.int .i64 fs,.slice (some ⟨rq,0,none⟩) fl.length cq,.slice none 0 0] 81):=⟨_,rfl⟩
     rw [← hwb] at hbs HG ⊢
     replace HRW:=Aside0.mk (pw_own_below HRW.out hbs)
     replace HFB:=Aside0.mk ((HFB.out.below hbs).mono hbs.size)
     replace HRQ:=Aside0.mk (pw_own_below HRQ.out hbs)
     replace HW:=Aside0.mk (below_step HW.out hbs)
     clear hbs g0 g1 g2 g3 y1
     obtain ⟨gf,hgf⟩:∃ gf,gf = wa.heap.size:=⟨_,rfl⟩
     rw [← hgf] at HG HNE HGE ⊢
     clear hwb hgf
     have z2:wb.cell? ⟨gf,2,none⟩ = some (.slice (some ⟨rq,0,none⟩) fl.length cq):=(blk_cell HG.out 2).trans rfl
     have HCC:Aside0 (∀ i u,(spc fl)[i]? = some u→wb.cell? ((⟨rq,0,none⟩:Addr).add i) = some u):=⟨fun i u hu=>by
      have h:=own_reads HRQ.out i u hu
      have e:(⟨rq,0,none⟩:Addr).add i = ⟨rq,i,none⟩:=by
       unfold Addr.add
       split
       ·rename_i h0;rw [h0]
       ·simp
      rw [e]
      exact h⟩
     have hfl64:fl.length ≤ 1000:=by omega
     go_upto_region 20 with (go_at_call 17;refine (clone_own ⟨rq,0,none⟩ cq fl _ HCC.out hfl64).mono ?_;rintro e wx ⟨v,rfl,hvf,hb⟩;obtain ⟨Av,cv,rfl⟩:=own_slice hvf;have HVF:=Aside0.mk (own_base hvf HW.out.size);replace HG:=Aside0.mk (blk_below HG.out hb);replace HRW:=Aside0.mk (pw_own_below HRW.out hb);replace HFB:=Aside0.mk ((HFB.out.below hb).mono hb.size);replace HW:=Aside0.mk (below_step HW.out hb);have z3:=blk_frozen HG.out 2;have z4:wx.cell? ⟨gf,2,none⟩ = some (.slice (some ⟨rq,0,none⟩) fl.length cq):=(blk_cell HG.out 2).trans rfl;clear hvf hb z2)
     have HG2:Aside0 ((wx.setCell ⟨gf,2,none⟩ (.slice Av fl.length cv)).heap[gf]? = some (.cells #[.int .i64 fa,.int .i64 fs,.slice Av fl.length cv,.slice none 0 0] 81 (0,0))):=⟨by have:=blk_set HG.out 2 (.slice Av fl.length cv);simpa using this⟩
     replace HRW:=Aside0.mk (own_setCell HRW.out (p:=⟨gf,2,none⟩) HNE.out (.slice Av fl.length cv))
     replace HFB:=Aside0.mk (HFB.out.set HG.out (by decide) 2 (.slice Av fl.length cv))
     replace HVF:=Aside0.mk (own_setCell HVF.out (own_ne HVF.out HG.out (by decide)) (.slice Av fl.length cv) (p:=⟨gf,2,none⟩))
     replace HW:=Aside0.mk (HW.out.setCell (p:=⟨gf,2,none⟩) HGE.out (.slice Av fl.length cv))
     have hsz:(wx.setCell ⟨gf,2,none⟩ (.slice Av fl.length cv)).heap.size = wx.heap.size:=World.size_setCell _ _ _
     rw [← hsz] at HFB
     clear hsz z3 z4
     generalize wx.setCell ⟨gf,2,none⟩ (.slice Av fl.length cv) = wy at HG2 HRW HFB HVF HW ⊢
     have y0:wy.cell? ⟨gf,0,none⟩ = some (.int .i64 fa):=(blk_cell HG2.out 0).trans rfl
     have y1:wy.cell? ⟨gf,1,none⟩ = some (.int .i64 fs):=(blk_cell HG2.out 1).trans rfl
     have y2:wy.cell? ⟨gf,2,none⟩ = some (.slice Av fl.length cv):=(blk_cell HG2.out 2).trans rfl
     have y3:wy.cell? ⟨gf,3,none⟩ = some (.slice none 0 0):=(blk_cell HG2.out 3).trans rfl
     have hvw:=HW.out.size
     have hxs:xs.length ≤ 20000000:=by rw [HXJ.out];omega
     clear HG
     go_wp2_with (at_builtin;go_must (refine print_append_cells (w0:=w2) w2.heap.size rfl _ _ 38 81 _ 4 64 rfl Tryz.underlying38 info81 rfl (by decide) (by decide) (.slice B xs.length cb) xs.length (frc xs) [.int .i64 fa,.int .i64 fs,.slice Av fl.length cv,.slice none 0 0] rfl ?c4 rfl ?c1 HRW.out HW.out hvw ?c3 ?_;(case c1=>intro u hu;simp at hu;rcases hu with rfl | rfl | rfl | rfl <;> rfl);(case c4=>simp [go_sem]);(case c3=>omega);intro v1 wn hown1 hb1 hg1 hat1;obtain ⟨B9,c9,rfl⟩:=own_slice hown1;have HO1:=Aside0.mk hown1;have HB1:=Aside0.mk hb1;have HF1:=Aside0.mk (((HFB.out.other HRW.out hg1).mono hg1.size).snoc (own_other HVF.out hg1 (own_type_ne HVF.out HRW.out (by decide))) (fun k hk=>own_lt (own_other HVF.out hg1 (own_type_ne HVF.out HRW.out (by decide))) k hk));clear hown1 hg1 hat1 hb1))
     go_roundg (sl.length - (j + 1))
     case measure=>omega
     case rel=>exact ⟨j + 1,xs ++ [((⟨fa,fs,fl⟩:Fr),.slice Av fl.length cv)],B9,c9,by rw [List.length_append];rfl,by first | rfl | go_num,by omega,Nat.le_refl _,⟨by rw [List.length_append,HXJ.out];rfl⟩,⟨by rw [List.map_append,HXM.out,HTJ.out];rfl⟩,⟨by rw [List.length_append,frc_snoc];exact HO1.out⟩,⟨by rw [List.map_append];exact HF1.out⟩,HB1⟩
    ·obtain rfl:j = sl.length:=by omega
     have hz4:decide ((sl.length:Int) < (sl.length:Int)) = false:=by simp
     have hz5:decide (sl.length < sl.length) = false:=by simp
     have HSZ:=HB2.out.size
     have HSW:=HB.out.size
     have HFO:Aside0 (FsOut w.heap.size wr (arrive L sl) (.slice B xs.length cb)):=⟨⟨xs,by rw [HXM.out,List.take_length],own_base HRW.out (by omega),HFB.out.low (by omega)⟩⟩
     have HBA:=Aside0.mk (below_step HB.out (below_then HB2.out HSZ HW.out))
     clear HRW HFB HXM
     go_wp2_with fail
     refine bodyPost_ret (results_tmp2 rfl _ _ _) rfl ?_
     rw [HSL.out]
     exact ⟨_,by rfl,HFO.out,HBA.out⟩
end Go.Proofs.YtdadnapfecmmdaaGreat.P
