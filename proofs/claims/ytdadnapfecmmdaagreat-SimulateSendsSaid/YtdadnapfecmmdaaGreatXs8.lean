/- Own texts of a proof about layer 55's simulate (merged): PF22, PF91, PF101, Hd, He, Hf. -/
import Derived.Test.YtdadnapfecmmdaaGreatXs2
import Derived.Test.YtdadnapfecmmdaaGreatXs3
import Derived.Test.YtdadnapfecmmdaaGreatXs7
import Derived.StillTailTactics
import Derived.Laws.EntriesVeiled
namespace Go.Proofs.YtdadnapfecmmdaaGreat.P
open Go.RowKit Go.Proofs.YtdadnapfecmmdaaGreatW.PrintWords Go.Proofs.YtdadnapfecmmdaaGreatW.PrintLast Go.Proofs.YtdadnapfecmmdaaGreatW.PrintMore
attribute [local go_sem] max2_int min2_int max_two min_two max_three min_three max_four min_four   -- for this text's walks alone
set_option linter.unusedVariables false
set_option linter.unusedSimpArgs false
def cmp_Compare_int.f (a0:Int) (a1:Int):Option (Int):=(cmp_isNaN_int.f a0).bind fun t125=>((cmp_isNaN_int.f a1).bind fun t126=>(if t125 = true then (if t126 = true then (some 0) else (some (-1))) else (if t126 = true then (some 1) else (if a0 < a1 then (some (-1)) else (if a0 > a1 then (some 1) else (some 0))))))
set_option maxHeartbeats 8000000 in
set_option maxRecDepth 100000 in
theorem cmp_Compare_int.calls (a0:Int) (a1:Int) (r:Int) (w:World) (h:cmp_Compare_int.f a0 a1 = some r):
  Calls Tryz.prog 22 #[.int .i64 a0,.int .i64 a1] w fun e w'=>e = .returned (.int .i64 r)∧Drawn0 w w':=by
 have H:((cmp_isNaN_int.f a0).bind fun t125=>((cmp_isNaN_int.f a1).bind fun t126=>(if t125 = true then (if t126 = true then (some 0) else (some (-1))) else (if t126 = true then (some 1) else (if a0 < a1 then (some (-1)) else (if a0 > a1 then (some 1) else (some 0))))))) = some r:=h
 clear h
 replace H:=Option.bind_eq_some_iff.mp H
 obtain ⟨t125,A30,H⟩:=H
 replace H:((cmp_isNaN_int.f a1).bind fun t126=>(if t125 = true then (if t126 = true then (some 0) else (some (-1))) else (if t126 = true then (some 1) else (if a0 < a1 then (some (-1)) else (if a0 > a1 then (some 1) else (some 0)))))) = some r:=H
 have A3:=Aside0.mk A30
 clear A30
 replace H:=Option.bind_eq_some_iff.mp H
 obtain ⟨t126,A40,H⟩:=H
 replace H:(if t125 = true then (if t126 = true then (some 0) else (some (-1))) else (if t126 = true then (some 1) else (if a0 < a1 then (some (-1)) else (if a0 > a1 then (some 1) else (some 0))))) = some r:=H
 have A4:=Aside0.mk A40
 clear A40
 by_cases c5:t125 = true
 ·subst c5
  have H1:(if t126 = true then (some 0) else (some (-1))) = some r:=by rw [if_pos rfl] at H;exact H
  clear H
  have H:=H1
  clear H1
  by_cases c6:t126 = true
  ·subst c6
   have H1:(some 0) = some r:=by rw [if_pos rfl] at H;exact H
   clear H
   have H:=H1
   clear H1
   obtain rfl:=Option.some.inj H
   go_enter Tryz.func22,Tryz.ntmps22
   go_wp2_with (first | ((with_reducible refine gate_callee (f:=38) rfl ?_);refine goesL_ (some 8) rfl rfl Tryz.func38 (by kernel_rfl) rfl #[.int .i64 a0] rfl (by (try simp only [List.map_toArray,List.map_cons,List.map_nil]);first | done | rfl | (simp only [List.length_drop,List.length_take];rfl)) ?_;(with_reducible refine (cmp_isNaN_int.calls a0 true _ A3.out).mono ?_);rintro e w' ⟨rfl,⟨nd,rfl⟩⟩;refine ⟨_,rfl,?_⟩) | ((with_reducible refine gate_callee (f:=38) rfl ?_);refine goesL_ (some 10) rfl rfl Tryz.func38 (by kernel_rfl) rfl #[.int .i64 a1] rfl (by (try simp only [List.map_toArray,List.map_cons,List.map_nil]);first | done | rfl | (simp only [List.length_drop,List.length_take];rfl)) ?_;(with_reducible refine (cmp_isNaN_int.calls a1 true _ A4.out).mono ?_);rintro e w' ⟨rfl,⟨nd,rfl⟩⟩;refine ⟨_,rfl,?_⟩))
   go_ret
   exact ⟨by first | rfl | (simp;done) | (simp [*];done),by repeat (first | exact Drawn0.refl _ | apply Drawn0.step)⟩
  ·replace c6:=Bool.eq_false_iff.mpr c6
   subst c6
   have H1:(some (-1)) = some r:=by rw [if_neg (show ¬ (false = true) by decide)] at H;exact H
   clear H
   have H:=H1
   clear H1
   obtain rfl:=Option.some.inj H
   go_enter Tryz.func22,Tryz.ntmps22
   go_wp2_with (first | ((with_reducible refine gate_callee (f:=38) rfl ?_);refine goesL_ (some 8) rfl rfl Tryz.func38 (by kernel_rfl) rfl #[.int .i64 a0] rfl (by (try simp only [List.map_toArray,List.map_cons,List.map_nil]);first | done | rfl | (simp only [List.length_drop,List.length_take];rfl)) ?_;(with_reducible refine (cmp_isNaN_int.calls a0 true _ A3.out).mono ?_);rintro e w' ⟨rfl,⟨nd,rfl⟩⟩;refine ⟨_,rfl,?_⟩) | ((with_reducible refine gate_callee (f:=38) rfl ?_);refine goesL_ (some 10) rfl rfl Tryz.func38 (by kernel_rfl) rfl #[.int .i64 a1] rfl (by (try simp only [List.map_toArray,List.map_cons,List.map_nil]);first | done | rfl | (simp only [List.length_drop,List.length_take];rfl)) ?_;(with_reducible refine (cmp_isNaN_int.calls a1 false _ A4.out).mono ?_);rintro e w' ⟨rfl,⟨nd,rfl⟩⟩;refine ⟨_,rfl,?_⟩))
   go_ret
   exact ⟨by first | rfl | (simp;done) | (simp [*];done),by repeat (first | exact Drawn0.refl _ | apply Drawn0.step)⟩
 ·replace c5:=Bool.eq_false_iff.mpr c5
  subst c5
  have H1:(if t126 = true then (some 1) else (if a0 < a1 then (some (-1)) else (if a0 > a1 then (some 1) else (some 0)))) = some r:=by rw [if_neg (show ¬ (false = true) by decide)] at H;exact H
  clear H
  have H:=H1
  clear H1
  by_cases c7:t126 = true
  ·subst c7
   have H1:(some 1) = some r:=by rw [if_pos rfl] at H;exact H
   clear H
   have H:=H1
   clear H1
   obtain rfl:=Option.some.inj H
   go_enter Tryz.func22,Tryz.ntmps22
   go_wp2_with (first | ((with_reducible refine gate_callee (f:=38) rfl ?_);refine goesL_ (some 8) rfl rfl Tryz.func38 (by kernel_rfl) rfl #[.int .i64 a0] rfl (by (try simp only [List.map_toArray,List.map_cons,List.map_nil]);first | done | rfl | (simp only [List.length_drop,List.length_take];rfl)) ?_;(with_reducible refine (cmp_isNaN_int.calls a0 false _ A3.out).mono ?_);rintro e w' ⟨rfl,⟨nd,rfl⟩⟩;refine ⟨_,rfl,?_⟩) | ((with_reducible refine gate_callee (f:=38) rfl ?_);refine goesL_ (some 10) rfl rfl Tryz.func38 (by kernel_rfl) rfl #[.int .i64 a1] rfl (by (try simp only [List.map_toArray,List.map_cons,List.map_nil]);first | done | rfl | (simp only [List.length_drop,List.length_take];rfl)) ?_;(with_reducible refine (cmp_isNaN_int.calls a1 true _ A4.out).mono ?_);rintro e w' ⟨rfl,⟨nd,rfl⟩⟩;refine ⟨_,rfl,?_⟩))
   go_ret
   exact ⟨by first | rfl | (simp;done) | (simp [*];done),by repeat (first | exact Drawn0.refl _ | apply Drawn0.step)⟩
  ·replace c7:=Bool.eq_false_iff.mpr c7
   subst c7
   have H1:(if a0 < a1 then (some (-1)) else (if a0 > a1 then (some 1) else (some 0))) = some r:=by rw [if_neg (show ¬ (false = true) by decide)] at H;exact H
   clear H
   have H:=H1
   clear H1
   by_cases c8:a0 < a1
   ·rw [if_pos c8] at H
    have c8b0:decide (a0 < a1) = true:=decide_eq_true c8
    clear c8
    obtain rfl:=Option.some.inj H
    go_enter Tryz.func22,Tryz.ntmps22
    go_wp2_with (first | ((with_reducible refine gate_callee (f:=38) rfl ?_);refine goesL_ (some 8) rfl rfl Tryz.func38 (by kernel_rfl) rfl #[.int .i64 a0] rfl (by (try simp only [List.map_toArray,List.map_cons,List.map_nil]);first | done | rfl | (simp only [List.length_drop,List.length_take];rfl)) ?_;(with_reducible refine (cmp_isNaN_int.calls a0 false _ A3.out).mono ?_);rintro e w' ⟨rfl,⟨nd,rfl⟩⟩;refine ⟨_,rfl,?_⟩) | ((with_reducible refine gate_callee (f:=38) rfl ?_);refine goesL_ (some 10) rfl rfl Tryz.func38 (by kernel_rfl) rfl #[.int .i64 a1] rfl (by (try simp only [List.map_toArray,List.map_cons,List.map_nil]);first | done | rfl | (simp only [List.length_drop,List.length_take];rfl)) ?_;(with_reducible refine (cmp_isNaN_int.calls a1 false _ A4.out).mono ?_);rintro e w' ⟨rfl,⟨nd,rfl⟩⟩;refine ⟨_,rfl,?_⟩))
    go_ret
    exact ⟨by first | rfl | (simp;done) | (simp [*];done),by repeat (first | exact Drawn0.refl _ | apply Drawn0.step)⟩
   ·rw [if_neg c8] at H
    have c8b0:decide (a0 < a1) = false:=decide_eq_false c8
    clear c8
    by_cases c9:a0 > a1
    ·rw [if_pos c9] at H
     have c9b0:decide (a1 < a0) = true:=decide_eq_true c9
     clear c9
     obtain rfl:=Option.some.inj H
     go_enter Tryz.func22,Tryz.ntmps22
     go_wp2_with (first | ((with_reducible refine gate_callee (f:=38) rfl ?_);refine goesL_ (some 8) rfl rfl Tryz.func38 (by kernel_rfl) rfl #[.int .i64 a0] rfl (by (try simp only [List.map_toArray,List.map_cons,List.map_nil]);first | done | rfl | (simp only [List.length_drop,List.length_take];rfl)) ?_;(with_reducible refine (cmp_isNaN_int.calls a0 false _ A3.out).mono ?_);rintro e w' ⟨rfl,⟨nd,rfl⟩⟩;refine ⟨_,rfl,?_⟩) | ((with_reducible refine gate_callee (f:=38) rfl ?_);refine goesL_ (some 10) rfl rfl Tryz.func38 (by kernel_rfl) rfl #[.int .i64 a1] rfl (by (try simp only [List.map_toArray,List.map_cons,List.map_nil]);first | done | rfl | (simp only [List.length_drop,List.length_take];rfl)) ?_;(with_reducible refine (cmp_isNaN_int.calls a1 false _ A4.out).mono ?_);rintro e w' ⟨rfl,⟨nd,rfl⟩⟩;refine ⟨_,rfl,?_⟩))
     go_ret
     exact ⟨by first | rfl | (simp;done) | (simp [*];done),by repeat (first | exact Drawn0.refl _ | apply Drawn0.step)⟩
    ·rw [if_neg c9] at H
     have c9b0:decide (a1 < a0) = false:=decide_eq_false c9
     clear c9
     obtain rfl:=Option.some.inj H
     go_enter Tryz.func22,Tryz.ntmps22
     go_wp2_with (first | ((with_reducible refine gate_callee (f:=38) rfl ?_);refine goesL_ (some 8) rfl rfl Tryz.func38 (by kernel_rfl) rfl #[.int .i64 a0] rfl (by (try simp only [List.map_toArray,List.map_cons,List.map_nil]);first | done | rfl | (simp only [List.length_drop,List.length_take];rfl)) ?_;(with_reducible refine (cmp_isNaN_int.calls a0 false _ A3.out).mono ?_);rintro e w' ⟨rfl,⟨nd,rfl⟩⟩;refine ⟨_,rfl,?_⟩) | ((with_reducible refine gate_callee (f:=38) rfl ?_);refine goesL_ (some 10) rfl rfl Tryz.func38 (by kernel_rfl) rfl #[.int .i64 a1] rfl (by (try simp only [List.map_toArray,List.map_cons,List.map_nil]);first | done | rfl | (simp only [List.length_drop,List.length_take];rfl)) ?_;(with_reducible refine (cmp_isNaN_int.calls a1 false _ A4.out).mono ?_);rintro e w' ⟨rfl,⟨nd,rfl⟩⟩;refine ⟨_,rfl,?_⟩))
     go_ret
     exact ⟨by first | rfl | (simp;done) | (simp [*];done),by repeat (first | exact Drawn0.refl _ | apply Drawn0.step)⟩
def cmp_Compare_string.f (a0:ByteArray) (a1:ByteArray):Option (Int):=some (cmpStr a0 a1)
theorem cmp_Compare_string.calls (a0:ByteArray) (a1:ByteArray) (r:Int) (w:World) (h:cmp_Compare_string.f a0 a1 = some r):
  Calls Tryz.prog 91 #[.string a0,.string a1] w fun e w'=>e = .returned (.int .i64 r)∧Drawn0 w w':=by
 obtain rfl:=Option.some.inj h
 refine (cmpStr_calls a0 a1 w).mono ?_
 rintro e w' ⟨he,rfl⟩
 exact ⟨he,Drawn0.refl _⟩
def deployment_Compare.f (k:Nat) (a0_0:Int) (a0_1:Int) (a0_2:Int) (a0_3:ByteArray) (a0_4:ByteArray) (a0_5:ByteArray) (a1_0:Int) (a1_1:Int) (a1_2:Int) (a1_3:ByteArray) (a1_4:ByteArray) (a1_5:ByteArray):Option (Int):=(cmp_Compare_int.f a0_2 a1_2).bind fun t129=>((cmp_Compare_int.f a0_0 a1_0).bind fun t130=>((cmp_Compare_int.f a0_1 a1_1).bind fun t131=>((cmp_Compare_string.f a0_3 a1_3).bind fun t132=>((cmp_Compare_string.f a0_4 a1_4).bind fun t133=>((cmp_Compare_string.f a0_5 a1_5).bind fun t134=>((cmp_Or_int.f k (([t129,t130,t131,t132,t133,t134]:List Int))).bind fun t138=>(some t138)))))))
def deployment_Compare.T1:Bool × List (List Nat × List Nat):=(true,[([],[]),([0],[0]),([],[]),([2],[2]),([1,3],[1,3]),([],[]),([5],[5]),([],[]),([7],[7]),([6,8,4],[6,8]),([],[]),([10],[10]),([],[]),([12],[12]),([11,13,9],[11,13]),([],[]),([15],[15]),([],[]),([17],[17]),([16,18,14],[16,18]),([],[]),([20],[20]),([],[]),([22],[22]),([21,23,19],[21,23]),([],[]),([25],[25]),([],[]),([27],[27]),([26,28,24],[26,28]),([4,9,14,19,24,29],[4,9,14,19,24,29]),([30,29],[30]),([31,31,0,1,2,3,4,5,6,7,8,9,10,11,12,13,14,15,16,17,18,19,20,21,22,23,24,25,26,27,28,29,30,31],[31])])
def deployment_Compare.B1:List Nat:=[0,1,0,4,15,0,32,0,128,511,0,1024,0,4096,16383,0,32768,0,131072,524287,0,1048576,0,4194304,16777215,0,33554432,0,134217728,536870911,1073741823,2147483647,4294967295]
theorem deployment_Compare.tab1:rtab .any (opsOf Tryz.f101 1) = deployment_Compare.T1:=by kernel_rfl
theorem deployment_Compare.bits1:waitsOk deployment_Compare.T1.2 deployment_Compare.B1 = true:=by kernel_rfl
set_option maxHeartbeats 8000000 in
set_option maxRecDepth 100000 in
theorem deployment_Compare.calls (k:Nat) (a0_0:Int) (a0_1:Int) (a0_2:Int) (a0_3:ByteArray) (a0_4:ByteArray) (a0_5:ByteArray) (a1_0:Int) (a1_1:Int) (a1_2:Int) (a1_3:ByteArray) (a1_4:ByteArray) (a1_5:ByteArray) (r:Int) (w:World) (h:deployment_Compare.f k a0_0 a0_1 a0_2 a0_3 a0_4 a0_5 a1_0 a1_1 a1_2 a1_3 a1_4 a1_5 = some r):
  Calls Tryz.prog 101 #[.agg #[.int .i64 a0_0,.int .i64 a0_1,.int .i64 a0_2,.string a0_3,.string a0_4,.string a0_5],.agg #[.int .i64 a1_0,.int .i64 a1_1,.int .i64 a1_2,.string a1_3,.string a1_4,.string a1_5]] w fun e w'=>e = .returned (.int .i64 r)∧Below w.heap.size w w':=by
 have hu98:=Tryz.underlying98
 have HB:=Aside0.mk (Below.refl w.heap.size w)
 have H:((cmp_Compare_int.f a0_2 a1_2).bind fun t129=>((cmp_Compare_int.f a0_0 a1_0).bind fun t130=>((cmp_Compare_int.f a0_1 a1_1).bind fun t131=>((cmp_Compare_string.f a0_3 a1_3).bind fun t132=>((cmp_Compare_string.f a0_4 a1_4).bind fun t133=>((cmp_Compare_string.f a0_5 a1_5).bind fun t134=>((cmp_Or_int.f k (([t129,t130,t131,t132,t133,t134]:List Int))).bind fun t138=>(some t138)))))))) = some r:=h
 clear h
 replace H:=Option.bind_eq_some_iff.mp H
 obtain ⟨t129,A30,H⟩:=H
 replace H:((cmp_Compare_int.f a0_0 a1_0).bind fun t130=>((cmp_Compare_int.f a0_1 a1_1).bind fun t131=>((cmp_Compare_string.f a0_3 a1_3).bind fun t132=>((cmp_Compare_string.f a0_4 a1_4).bind fun t133=>((cmp_Compare_string.f a0_5 a1_5).bind fun t134=>((cmp_Or_int.f k (([t129,t130,t131,t132,t133,t134]:List Int))).bind fun t138=>(some t138))))))) = some r:=H
 have A3:=Aside0.mk A30
 clear A30
 replace H:=Option.bind_eq_some_iff.mp H
 obtain ⟨t130,A40,H⟩:=H
 replace H:((cmp_Compare_int.f a0_1 a1_1).bind fun t131=>((cmp_Compare_string.f a0_3 a1_3).bind fun t132=>((cmp_Compare_string.f a0_4 a1_4).bind fun t133=>((cmp_Compare_string.f a0_5 a1_5).bind fun t134=>((cmp_Or_int.f k (([t129,t130,t131,t132,t133,t134]:List Int))).bind fun t138=>(some t138)))))) = some r:=H
 have A4:=Aside0.mk A40
 clear A40
 replace H:=Option.bind_eq_some_iff.mp H
 obtain ⟨t131,A50,H⟩:=H
 replace H:((cmp_Compare_string.f a0_3 a1_3).bind fun t132=>((cmp_Compare_string.f a0_4 a1_4).bind fun t133=>((cmp_Compare_string.f a0_5 a1_5).bind fun t134=>((cmp_Or_int.f k (([t129,t130,t131,t132,t133,t134]:List Int))).bind fun t138=>(some t138))))) = some r:=H
 have A5:=Aside0.mk A50
 clear A50
 replace H:=Option.bind_eq_some_iff.mp H
 obtain ⟨t132,A60,H⟩:=H
 replace H:((cmp_Compare_string.f a0_4 a1_4).bind fun t133=>((cmp_Compare_string.f a0_5 a1_5).bind fun t134=>((cmp_Or_int.f k (([t129,t130,t131,t132,t133,t134]:List Int))).bind fun t138=>(some t138)))) = some r:=H
 have A6:=Aside0.mk A60
 clear A60
 replace H:=Option.bind_eq_some_iff.mp H
 obtain ⟨t133,A70,H⟩:=H
 replace H:((cmp_Compare_string.f a0_5 a1_5).bind fun t134=>((cmp_Or_int.f k (([t129,t130,t131,t132,t133,t134]:List Int))).bind fun t138=>(some t138))) = some r:=H
 have A7:=Aside0.mk A70
 clear A70
 replace H:=Option.bind_eq_some_iff.mp H
 obtain ⟨t134,A80,H⟩:=H
 replace H:((cmp_Or_int.f k (([t129,t130,t131,t132,t133,t134]:List Int))).bind fun t138=>(some t138)) = some r:=H
 have A8:=Aside0.mk A80
 clear A80
 obtain ⟨y135,hy135⟩:∃ y_:List Int,y_ = (([t129,t130,t131,t132,t133,t134]:List Int)):=⟨_,rfl⟩
 replace H:((cmp_Or_int.f k y135).bind fun t138=>(some t138)) = some r:=by first | (rw [hy135];with_reducible exact H) | (have H2_:=(Option.bind_some _ _).symm.trans H;rw [hy135];with_reducible exact H2_) | (have H2_:=(Option.bind_some _ _).symm.trans H;with_reducible exact H2_) | with_reducible exact H | (rw [hy135];exact H) | exact H
 have Ny135:=Aside0.mk hy135
 clear hy135
 replace H:=Option.bind_eq_some_iff.mp H
 obtain ⟨t138,A90,H⟩:=H
 replace H:(some t138) = some r:=H
 have A9:=Aside0.mk A90
 clear A90
 obtain rfl:=Option.some.inj H
 go_enter Tryz.func101,Tryz.ntmps101
 try go_wp2_with (first | ((with_reducible refine gate_dst (N:=2) rfl ?_);refine box_event ?hg (N:=2) ?hd (cs:=#[.int .i64 a0_0,.int .i64 a0_1,.int .i64 a0_2,.string a0_3,.string a0_4,.string a0_5]) (t:=98) ?hr ?_;(case hd=>rfl);(case hg=>rfl);(case hr=>first | (go_simp;done) | (go_simp;rfl));intro gb127 hg w10 hbox hb;have n0_:=Aside0.mk (below_step (by repeat (first | (with_reducible first | exact HB.out | apply below_alloc | apply pw_below_drewN | apply below_drew1) | exact HB.out)) hb);have n1_:=Aside0.mk (hbox);have n2_:=Aside0.mk ((by rw [hg];exact (below_size (by repeat (first | (with_reducible first | exact HB.out | apply below_alloc | apply pw_below_drewN | apply below_drew1) | exact HB.out))):w.heap.size ≤ gb127));have n3_:=Aside0.mk ((by rw [hg];exact (below_size (by repeat (first | (with_reducible first | exact HB.out | apply below_alloc | apply pw_below_drewN | apply below_drew1) | exact HB.out))):w.heap.size ≤ gb127));clear HB;have HB:=n0_;have BK127:=n1_;have GW127:=n2_;have GE127:=n3_;clear n0_ n1_ n2_ n3_;clear hb hbox hg) | ((with_reducible refine gate_dst (N:=3) rfl ?_);refine box_event ?hg (N:=3) ?hd (cs:=#[.int .i64 a1_0,.int .i64 a1_1,.int .i64 a1_2,.string a1_3,.string a1_4,.string a1_5]) (t:=98) ?hr ?_;(case hd=>rfl);(case hg=>rfl);(case hr=>first | (go_simp;done) | (go_simp;rfl));intro gb128 hg w11 hbox hb;have n0_:=Aside0.mk (blk_below (g:=gb127) (o:=.cells #[.int .i64 a0_0,.int .i64 a0_1,.int .i64 a0_2,.string a0_3,.string a0_4,.string a0_5] 98 (0,0)) (by (with_reducible repeat (first | refine blk_drewN ?_ _ | refine blk_drew ?_ | refine blk_alloc ?_ _));exact BK127.out) hb);have n1_:=Aside0.mk (below_step (by repeat (first | (with_reducible first | exact HB.out | apply below_alloc | apply pw_below_drewN | apply below_drew1 | refine below_set ?_ GE127.out) | exact HB.out)) hb);have n2_:=Aside0.mk (hbox);have n3_:=Aside0.mk ((by rw [hg];exact (below_size (by repeat (first | (with_reducible first | exact HB.out | apply below_alloc | apply pw_below_drewN | apply below_drew1 | refine below_set ?_ GE127.out) | exact HB.out))):w.heap.size ≤ gb128));have n4_:=Aside0.mk ((by rw [hg];exact (below_size (by repeat (first | (with_reducible first | exact HB.out | apply below_alloc | apply pw_below_drewN | apply below_drew1 | refine below_set ?_ GE127.out) | exact HB.out))):w.heap.size ≤ gb128));have n5_:=Aside0.mk ((by rw [hg];exact Nat.ne_of_lt (blk_lt (g:=gb127) (o:=.cells #[.int .i64 a0_0,.int .i64 a0_1,.int .i64 a0_2,.string a0_3,.string a0_4,.string a0_5] 98 (0,0)) (by (with_reducible repeat (first | refine blk_drewN ?_ _ | refine blk_drew ?_ | refine blk_alloc ?_ _));exact BK127.out)):gb127 ≠ gb128));have n6_:=Aside0.mk ((by rw [hg];exact Nat.ne_of_gt (blk_lt (g:=gb127) (o:=.cells #[.int .i64 a0_0,.int .i64 a0_1,.int .i64 a0_2,.string a0_3,.string a0_4,.string a0_5] 98 (0,0)) (by (with_reducible repeat (first | refine blk_drewN ?_ _ | refine blk_drew ?_ | refine blk_alloc ?_ _));exact BK127.out)):gb128 ≠ gb127));clear BK127;clear HB;have BK127:=n0_;have HB:=n1_;have BK128:=n2_;have GW128:=n3_;have GE128:=n4_;have NB127_128:=n5_;have NB128_127:=n6_;clear n0_ n1_ n2_ n3_ n4_ n5_ n6_;clear hb hbox hg))
 have n0_:=Aside0.mk (blk_drew BK127.out)
 have n1_:=Aside0.mk (blk_drew BK128.out)
 have n2_:=Aside0.mk (below_drew1 HB.out)
 clear BK127
 clear BK128
 clear HB
 have BK127:=n0_
 have BK128:=n1_
 have HB:=n2_
 clear n0_ n1_ n2_
 refine start_ (n:=33) (S:=fun w'=>w'.cell? ⟨gb127,0,none⟩ = some (.int .i64 a0_0)∧w'.cell? ⟨gb127,1,none⟩ = some (.int .i64 a0_1)∧w'.cell? ⟨gb127,2,none⟩ = some (.int .i64 a0_2)∧w'.cell? ⟨gb127,3,none⟩ = some (.string a0_3)∧w'.cell? ⟨gb127,4,none⟩ = some (.string a0_4)∧w'.cell? ⟨gb127,5,none⟩ = some (.string a0_5)∧w'.cell? ⟨gb128,0,none⟩ = some (.int .i64 a1_0)∧w'.cell? ⟨gb128,1,none⟩ = some (.int .i64 a1_1)∧w'.cell? ⟨gb128,2,none⟩ = some (.int .i64 a1_2)∧w'.cell? ⟨gb128,3,none⟩ = some (.string a1_3)∧w'.cell? ⟨gb128,4,none⟩ = some (.string a1_4)∧w'.cell? ⟨gb128,5,none⟩ = some (.string a1_5)) (ds:=[]) (bq 33 0) (by kernel_rfl) rfl rfl ⟨(blk_cell BK127.out 0).trans rfl,(blk_cell BK127.out 1).trans rfl,(blk_cell BK127.out 2).trans rfl,(blk_cell BK127.out 3).trans rfl,(blk_cell BK127.out 4).trans rfl,(blk_cell BK127.out 5).trans rfl,(blk_cell BK128.out 0).trans rfl,(blk_cell BK128.out 1).trans rfl,(blk_cell BK128.out 2).trans rfl,(blk_cell BK128.out 3).trans rfl,(blk_cell BK128.out 4).trans rfl,(blk_cell BK128.out 5).trans rfl⟩ (fun hHeld=>?_);refine with_tabW deployment_Compare.tab1 deployment_Compare.bits1 (fun HT_ HW_=>?_)
 generalize w11.drew = w12 at BK127 BK128 HB hHeld ⊢
 refine pu_ 0 (some 5) (bq 33 1) HT_ rfl rfl ?_
 refine pu_ 2 (some 7) (bq 33 5) HT_ rfl rfl ?_
 refine pu_ 5 (some 10) (bq 33 37) HT_ rfl rfl ?_
 refine pu_ 7 (some 12) (bq 33 165) HT_ rfl rfl ?_
 refine pu_ 10 (some 15) (bq 33 1189) HT_ rfl rfl ?_
 refine pu_ 12 (some 17) (bq 33 5285) HT_ rfl rfl ?_
 refine pu_ 15 (some 20) (bq 33 38053) HT_ rfl rfl ?_
 refine pu_ 17 (some 22) (bq 33 169125) HT_ rfl rfl ?_
 refine pu_ 20 (some 25) (bq 33 1217701) HT_ rfl rfl ?_
 refine pu_ 22 (some 27) (bq 33 5412005) HT_ rfl rfl ?_
 refine pu_ 25 (some 30) (bq 33 38966437) HT_ rfl rfl ?_
 refine pu_ 27 (some 32) (bq 33 173184165) HT_ rfl rfl ?_
 refine take_ (i:=1) (N:=some 6) (v:=?_) (a':=?_) (bq 33 173184167) rfl rfl (take_ofW HT_.out HW_.out (by kernel_rfl)) (fun _ _ _ h=>h) (Or.inl ⟨by rfl,?_⟩) hHeld ?_ ?_
 rotate_left
 ·rintro w' ⟨s0,s1,s2,s3,s4,s5,s6,s7,s8,s9,s10,s11⟩
  go_simp
  with_reducible rfl
 rotate_left
 ·simp only [Act.put,List.setIfInBounds_toArray,List.set_cons_zero,List.set_cons_succ,i64_w,i32_w]
  rfl
 refine take_ (i:=3) (N:=some 8) (v:=?_) (a':=?_) (bq 33 173184175) rfl rfl (take_ofW HT_.out HW_.out (by kernel_rfl)) (fun _ _ _ h=>h) (Or.inl ⟨by rfl,?_⟩) hHeld ?_ ?_
 rotate_left
 ·rintro w' ⟨s0,s1,s2,s3,s4,s5,s6,s7,s8,s9,s10,s11⟩
  go_simp
  with_reducible rfl
 rotate_left
 ·simp only [Act.put,List.setIfInBounds_toArray,List.set_cons_zero,List.set_cons_succ,i64_w,i32_w]
  rfl
 refine take_ (i:=6) (N:=some 11) (v:=?_) (a':=?_) (bq 33 173184239) rfl rfl (take_ofW HT_.out HW_.out (by kernel_rfl)) (fun _ _ _ h=>h) (Or.inl ⟨by rfl,?_⟩) hHeld ?_ ?_
 rotate_left
 ·rintro w' ⟨s0,s1,s2,s3,s4,s5,s6,s7,s8,s9,s10,s11⟩
  go_simp
  with_reducible rfl
 rotate_left
 ·simp only [Act.put,List.setIfInBounds_toArray,List.set_cons_zero,List.set_cons_succ,i64_w,i32_w]
  rfl
 refine take_ (i:=8) (N:=some 13) (v:=?_) (a':=?_) (bq 33 173184495) rfl rfl (take_ofW HT_.out HW_.out (by kernel_rfl)) (fun _ _ _ h=>h) (Or.inl ⟨by rfl,?_⟩) hHeld ?_ ?_
 rotate_left
 ·rintro w' ⟨s0,s1,s2,s3,s4,s5,s6,s7,s8,s9,s10,s11⟩
  go_simp
  with_reducible rfl
 rotate_left
 ·simp only [Act.put,List.setIfInBounds_toArray,List.set_cons_zero,List.set_cons_succ,i64_w,i32_w]
  rfl
 refine take_ (i:=11) (N:=some 16) (v:=?_) (a':=?_) (bq 33 173186543) rfl rfl (take_ofW HT_.out HW_.out (by kernel_rfl)) (fun _ _ _ h=>h) (Or.inl ⟨by rfl,?_⟩) hHeld ?_ ?_
 rotate_left
 ·rintro w' ⟨s0,s1,s2,s3,s4,s5,s6,s7,s8,s9,s10,s11⟩
  go_simp
  with_reducible rfl
 rotate_left
 ·simp only [Act.put,List.setIfInBounds_toArray,List.set_cons_zero,List.set_cons_succ,i64_w,i32_w]
  rfl
 refine take_ (i:=13) (N:=some 18) (v:=?_) (a':=?_) (bq 33 173194735) rfl rfl (take_ofW HT_.out HW_.out (by kernel_rfl)) (fun _ _ _ h=>h) (Or.inl ⟨by rfl,?_⟩) hHeld ?_ ?_
 rotate_left
 ·rintro w' ⟨s0,s1,s2,s3,s4,s5,s6,s7,s8,s9,s10,s11⟩
  go_simp
  with_reducible rfl
 rotate_left
 ·simp only [Act.put,List.setIfInBounds_toArray,List.set_cons_zero,List.set_cons_succ,i64_w,i32_w]
  rfl
 refine take_ (i:=16) (N:=some 21) (v:=?_) (a':=?_) (bq 33 173260271) rfl rfl (take_ofW HT_.out HW_.out (by kernel_rfl)) (fun _ _ _ h=>h) (Or.inl ⟨by rfl,?_⟩) hHeld ?_ ?_
 rotate_left
 ·rintro w' ⟨s0,s1,s2,s3,s4,s5,s6,s7,s8,s9,s10,s11⟩
  go_simp
  with_reducible rfl
 rotate_left
 ·simp only [Act.put,List.setIfInBounds_toArray,List.set_cons_zero,List.set_cons_succ,i64_w,i32_w]
  rfl
 refine take_ (i:=18) (N:=some 23) (v:=?_) (a':=?_) (bq 33 173522415) rfl rfl (take_ofW HT_.out HW_.out (by kernel_rfl)) (fun _ _ _ h=>h) (Or.inl ⟨by rfl,?_⟩) hHeld ?_ ?_
 rotate_left
 ·rintro w' ⟨s0,s1,s2,s3,s4,s5,s6,s7,s8,s9,s10,s11⟩
  go_simp
  with_reducible rfl
 rotate_left
 ·simp only [Act.put,List.setIfInBounds_toArray,List.set_cons_zero,List.set_cons_succ,i64_w,i32_w]
  rfl
 refine take_ (i:=21) (N:=some 26) (v:=?_) (a':=?_) (bq 33 175619567) rfl rfl (take_ofW HT_.out HW_.out (by kernel_rfl)) (fun _ _ _ h=>h) (Or.inl ⟨by rfl,?_⟩) hHeld ?_ ?_
 rotate_left
 ·rintro w' ⟨s0,s1,s2,s3,s4,s5,s6,s7,s8,s9,s10,s11⟩
  go_simp
  with_reducible rfl
 rotate_left
 ·simp only [Act.put,List.setIfInBounds_toArray,List.set_cons_zero,List.set_cons_succ,i64_w,i32_w]
  rfl
 refine take_ (i:=23) (N:=some 28) (v:=?_) (a':=?_) (bq 33 184008175) rfl rfl (take_ofW HT_.out HW_.out (by kernel_rfl)) (fun _ _ _ h=>h) (Or.inl ⟨by rfl,?_⟩) hHeld ?_ ?_
 rotate_left
 ·rintro w' ⟨s0,s1,s2,s3,s4,s5,s6,s7,s8,s9,s10,s11⟩
  go_simp
  with_reducible rfl
 rotate_left
 ·simp only [Act.put,List.setIfInBounds_toArray,List.set_cons_zero,List.set_cons_succ,i64_w,i32_w]
  rfl
 refine take_ (i:=26) (N:=some 31) (v:=?_) (a':=?_) (bq 33 251117039) rfl rfl (take_ofW HT_.out HW_.out (by kernel_rfl)) (fun _ _ _ h=>h) (Or.inl ⟨by rfl,?_⟩) hHeld ?_ ?_
 rotate_left
 ·rintro w' ⟨s0,s1,s2,s3,s4,s5,s6,s7,s8,s9,s10,s11⟩
  go_simp
  with_reducible rfl
 rotate_left
 ·simp only [Act.put,List.setIfInBounds_toArray,List.set_cons_zero,List.set_cons_succ,i64_w,i32_w]
  rfl
 refine take_ (i:=28) (N:=some 33) (v:=?_) (a':=?_) (bq 33 519552495) rfl rfl (take_ofW HT_.out HW_.out (by kernel_rfl)) (fun _ _ _ h=>h) (Or.inl ⟨by rfl,?_⟩) hHeld ?_ ?_
 rotate_left
 ·rintro w' ⟨s0,s1,s2,s3,s4,s5,s6,s7,s8,s9,s10,s11⟩
  go_simp
  with_reducible rfl
 rotate_left
 ·simp only [Act.put,List.setIfInBounds_toArray,List.set_cons_zero,List.set_cons_succ,i64_w,i32_w]
  rfl
 refine one_ (i:=4) (N:=some 9) (bq 33 519552511) rfl rfl (one_of HT_.out (by kernel_rfl)) (by decide) (fun K hK=>?_)
 refine goes_ Tryz.func22 (by kernel_rfl) rfl #[.int .i64 a0_2,.int .i64 a1_2] (by rfl) rfl rfl (by (try simp only [List.map_toArray,List.map_cons,List.map_nil]);first | done | rfl | (simp only [List.length_drop,List.length_take];rfl)) ?_
 with_reducible refine (cmp_Compare_int.calls a0_2 a1_2 t129 _ A3.out).mono ?_
 rintro e w' ⟨rfl,⟨nd,rfl⟩⟩
 refine ⟨_,rfl,?_⟩
 refine hK.out _ _ ⟨(blk_cell BK127.out 0).trans rfl,(blk_cell BK127.out 1).trans rfl,(blk_cell BK127.out 2).trans rfl,(blk_cell BK127.out 3).trans rfl,(blk_cell BK127.out 4).trans rfl,(blk_cell BK127.out 5).trans rfl,(blk_cell BK128.out 0).trans rfl,(blk_cell BK128.out 1).trans rfl,(blk_cell BK128.out 2).trans rfl,(blk_cell BK128.out 3).trans rfl,(blk_cell BK128.out 4).trans rfl,(blk_cell BK128.out 5).trans rfl⟩ (fun hHeld=>?_)
 clear hK K
 refine norm_ (a':=?_) ?_ ?_
 rotate_left
 ·show Act.put _ (some 9) _ = _
  simp only [Act.put,List.setIfInBounds_toArray,List.set_cons_zero,List.set_cons_succ,i64_w,i32_w]
  rfl
 refine one_ (i:=9) (N:=some 14) (bq 33 519553023) rfl rfl (one_of HT_.out (by kernel_rfl)) (by decide) (fun K hK=>?_)
 refine goes_ Tryz.func22 (by kernel_rfl) rfl #[.int .i64 a0_0,.int .i64 a1_0] (by rfl) rfl rfl (by (try simp only [List.map_toArray,List.map_cons,List.map_nil]);first | done | rfl | (simp only [List.length_drop,List.length_take];rfl)) ?_
 with_reducible refine (cmp_Compare_int.calls a0_0 a1_0 t130 _ A4.out).mono ?_
 rintro e w' ⟨rfl,⟨nd,rfl⟩⟩
 refine ⟨_,rfl,?_⟩
 refine hK.out _ _ ⟨(blk_cell BK127.out 0).trans rfl,(blk_cell BK127.out 1).trans rfl,(blk_cell BK127.out 2).trans rfl,(blk_cell BK127.out 3).trans rfl,(blk_cell BK127.out 4).trans rfl,(blk_cell BK127.out 5).trans rfl,(blk_cell BK128.out 0).trans rfl,(blk_cell BK128.out 1).trans rfl,(blk_cell BK128.out 2).trans rfl,(blk_cell BK128.out 3).trans rfl,(blk_cell BK128.out 4).trans rfl,(blk_cell BK128.out 5).trans rfl⟩ (fun hHeld=>?_)
 clear hK K
 refine norm_ (a':=?_) ?_ ?_
 rotate_left
 ·show Act.put _ (some 14) _ = _
  simp only [Act.put,List.setIfInBounds_toArray,List.set_cons_zero,List.set_cons_succ,i64_w,i32_w]
  rfl
 refine one_ (i:=14) (N:=some 19) (bq 33 519569407) rfl rfl (one_of HT_.out (by kernel_rfl)) (by decide) (fun K hK=>?_)
 refine goes_ Tryz.func22 (by kernel_rfl) rfl #[.int .i64 a0_1,.int .i64 a1_1] (by rfl) rfl rfl (by (try simp only [List.map_toArray,List.map_cons,List.map_nil]);first | done | rfl | (simp only [List.length_drop,List.length_take];rfl)) ?_
 with_reducible refine (cmp_Compare_int.calls a0_1 a1_1 t131 _ A5.out).mono ?_
 rintro e w' ⟨rfl,⟨nd,rfl⟩⟩
 refine ⟨_,rfl,?_⟩
 refine hK.out _ _ ⟨(blk_cell BK127.out 0).trans rfl,(blk_cell BK127.out 1).trans rfl,(blk_cell BK127.out 2).trans rfl,(blk_cell BK127.out 3).trans rfl,(blk_cell BK127.out 4).trans rfl,(blk_cell BK127.out 5).trans rfl,(blk_cell BK128.out 0).trans rfl,(blk_cell BK128.out 1).trans rfl,(blk_cell BK128.out 2).trans rfl,(blk_cell BK128.out 3).trans rfl,(blk_cell BK128.out 4).trans rfl,(blk_cell BK128.out 5).trans rfl⟩ (fun hHeld=>?_)
 clear hK K
 refine norm_ (a':=?_) ?_ ?_
 rotate_left
 ·show Act.put _ (some 19) _ = _
  simp only [Act.put,List.setIfInBounds_toArray,List.set_cons_zero,List.set_cons_succ,i64_w,i32_w]
  rfl
 refine one_ (i:=19) (N:=some 24) (bq 33 520093695) rfl rfl (one_of HT_.out (by kernel_rfl)) (by decide) (fun K hK=>?_)
 refine goes_ Tryz.func91 (by kernel_rfl) rfl #[.string a0_3,.string a1_3] (by rfl) rfl rfl (by (try simp only [List.map_toArray,List.map_cons,List.map_nil]);first | done | rfl | (simp only [List.length_drop,List.length_take];rfl)) ?_
 with_reducible refine (cmp_Compare_string.calls a0_3 a1_3 t132 _ A6.out).mono ?_
 rintro e w' ⟨rfl,⟨nd,rfl⟩⟩
 refine ⟨_,rfl,?_⟩
 refine hK.out _ _ ⟨(blk_cell BK127.out 0).trans rfl,(blk_cell BK127.out 1).trans rfl,(blk_cell BK127.out 2).trans rfl,(blk_cell BK127.out 3).trans rfl,(blk_cell BK127.out 4).trans rfl,(blk_cell BK127.out 5).trans rfl,(blk_cell BK128.out 0).trans rfl,(blk_cell BK128.out 1).trans rfl,(blk_cell BK128.out 2).trans rfl,(blk_cell BK128.out 3).trans rfl,(blk_cell BK128.out 4).trans rfl,(blk_cell BK128.out 5).trans rfl⟩ (fun hHeld=>?_)
 clear hK K
 refine norm_ (a':=?_) ?_ ?_
 rotate_left
 ·show Act.put _ (some 24) _ = _
  simp only [Act.put,List.setIfInBounds_toArray,List.set_cons_zero,List.set_cons_succ,i64_w,i32_w]
  rfl
 refine one_ (i:=24) (N:=some 29) (bq 33 536870911) rfl rfl (one_of HT_.out (by kernel_rfl)) (by decide) (fun K hK=>?_)
 refine goes_ Tryz.func91 (by kernel_rfl) rfl #[.string a0_4,.string a1_4] (by rfl) rfl rfl (by (try simp only [List.map_toArray,List.map_cons,List.map_nil]);first | done | rfl | (simp only [List.length_drop,List.length_take];rfl)) ?_
 with_reducible refine (cmp_Compare_string.calls a0_4 a1_4 t133 _ A7.out).mono ?_
 rintro e w' ⟨rfl,⟨nd,rfl⟩⟩
 refine ⟨_,rfl,?_⟩
 refine hK.out _ _ ⟨(blk_cell BK127.out 0).trans rfl,(blk_cell BK127.out 1).trans rfl,(blk_cell BK127.out 2).trans rfl,(blk_cell BK127.out 3).trans rfl,(blk_cell BK127.out 4).trans rfl,(blk_cell BK127.out 5).trans rfl,(blk_cell BK128.out 0).trans rfl,(blk_cell BK128.out 1).trans rfl,(blk_cell BK128.out 2).trans rfl,(blk_cell BK128.out 3).trans rfl,(blk_cell BK128.out 4).trans rfl,(blk_cell BK128.out 5).trans rfl⟩ (fun hHeld=>?_)
 clear hK K
 refine norm_ (a':=?_) ?_ ?_
 rotate_left
 ·show Act.put _ (some 29) _ = _
  simp only [Act.put,List.setIfInBounds_toArray,List.set_cons_zero,List.set_cons_succ,i64_w,i32_w]
  rfl
 refine one_ (i:=29) (N:=some 34) (bq 33 1073741823) rfl rfl (one_of HT_.out (by kernel_rfl)) (by decide) (fun K hK=>?_)
 refine goes_ Tryz.func91 (by kernel_rfl) rfl #[.string a0_5,.string a1_5] (by rfl) rfl rfl (by (try simp only [List.map_toArray,List.map_cons,List.map_nil]);first | done | rfl | (simp only [List.length_drop,List.length_take];rfl)) ?_
 with_reducible refine (cmp_Compare_string.calls a0_5 a1_5 t134 _ A8.out).mono ?_
 rintro e w' ⟨rfl,⟨nd,rfl⟩⟩
 refine ⟨_,rfl,?_⟩
 refine hK.out _ _ ⟨(blk_cell BK127.out 0).trans rfl,(blk_cell BK127.out 1).trans rfl,(blk_cell BK127.out 2).trans rfl,(blk_cell BK127.out 3).trans rfl,(blk_cell BK127.out 4).trans rfl,(blk_cell BK127.out 5).trans rfl,(blk_cell BK128.out 0).trans rfl,(blk_cell BK128.out 1).trans rfl,(blk_cell BK128.out 2).trans rfl,(blk_cell BK128.out 3).trans rfl,(blk_cell BK128.out 4).trans rfl,(blk_cell BK128.out 5).trans rfl⟩ (fun hHeld=>?_)
 clear hK K
 refine norm_ (a':=?_) ?_ ?_
 rotate_left
 ·show Act.put _ (some 34) _ = _
  simp only [Act.put,List.setIfInBounds_toArray,List.set_cons_zero,List.set_cons_succ,i64_w,i32_w]
  rfl
 refine one_ (i:=30) (N:=some 35) (bq 33 2147483647) rfl rfl (one_of HT_.out (by kernel_rfl)) (by decide) (fun K hK=>?_)
 refine Kd.R_lit_step (Kd.int .i64) _ 3 ?hg (N:=35) ?hd (xs:=([t129,t130,t131,t132,t133,t134]:List Int)) (inner:=[.int .i64 t129,.int .i64 t130,.int .i64 t131,.int .i64 t132,.int .i64 t133,.int .i64 t134]) (ok:=fun _=>True) (okp:=fun _=>True) ?hr ?hp (fun _ hk=>hk) trivial (Below.refl _ _) (Nat.le_refl _) (by simp) ?_;(case hd=>rfl);(case hg=>rfl);(case hr=>first | (go_simp;done) | (go_simp;rfl));(case hp=>exact (Reps.one (show Kd.M (Kd.int .i64) _ _ _ t129 [.int .i64 t129] from rfl) (Reps.one (show Kd.M (Kd.int .i64) _ _ _ t130 [.int .i64 t130] from rfl) (Reps.one (show Kd.M (Kd.int .i64) _ _ _ t131 [.int .i64 t131] from rfl) (Reps.one (show Kd.M (Kd.int .i64) _ _ _ t132 [.int .i64 t132] from rfl) (Reps.one (show Kd.M (Kd.int .i64) _ _ _ t133 [.int .i64 t133] from rfl) (Reps.one (show Kd.M (Kd.int .i64) _ _ _ t134 [.int .i64 t134] from rfl) (Reps.none _ _))))))))
 intro v136 w13 ho14 hb hg_ hnew_
 clear hg_ hnew_
 (first | rw [← Ny135.out] at ho14 | (simp only [Int.reduceToNat] at ho14;rw [← Ny135.out] at ho14))
 have n0_:=Aside0.mk (Kd.R_lower ho14 (below_size (by repeat (first | (with_reducible first | exact HB.out | apply below_alloc | apply pw_below_drewN | apply below_drew1 | refine below_set ?_ GE127.out | refine below_set ?_ GE128.out) | exact HB.out))))
 have n1_:=Aside0.mk (blk_below (g:=gb127) (o:=.cells #[.int .i64 a0_0,.int .i64 a0_1,.int .i64 a0_2,.string a0_3,.string a0_4,.string a0_5] 98 (0,0)) (by (with_reducible repeat (first | refine blk_drewN ?_ _ | refine blk_drew ?_ | refine blk_alloc ?_ _));exact BK127.out) hb)
 have n2_:=Aside0.mk (blk_below (g:=gb128) (o:=.cells #[.int .i64 a1_0,.int .i64 a1_1,.int .i64 a1_2,.string a1_3,.string a1_4,.string a1_5] 98 (0,0)) (by (with_reducible repeat (first | refine blk_drewN ?_ _ | refine blk_drew ?_ | refine blk_alloc ?_ _));exact BK128.out) hb)
 have n3_:=Aside0.mk (below_step (by repeat (first | (with_reducible first | exact HB.out | apply below_alloc | apply pw_below_drewN | apply below_drew1 | refine below_set ?_ GE127.out | refine below_set ?_ GE128.out) | exact HB.out)) hb)
 clear BK127
 clear BK128
 clear HB
 have HO137:=n0_
 have BK127:=n1_
 have BK128:=n2_
 have HB:=n3_
 clear n0_ n1_ n2_ n3_
 clear hb ho14
 obtain ⟨Ao15,co15,eo15⟩:=Kd.R_slice HO137.out
 (first | subst eo15 | (injection eo15 with f1_ f2_ f3_;have f4_:=f1_.symm;have f5_:=f3_.symm;clear f1_ f2_ f3_;subst f4_;subst f5_))
 refine hK.out _ _ ⟨(blk_cell BK127.out 0).trans rfl,(blk_cell BK127.out 1).trans rfl,(blk_cell BK127.out 2).trans rfl,(blk_cell BK127.out 3).trans rfl,(blk_cell BK127.out 4).trans rfl,(blk_cell BK127.out 5).trans rfl,(blk_cell BK128.out 0).trans rfl,(blk_cell BK128.out 1).trans rfl,(blk_cell BK128.out 2).trans rfl,(blk_cell BK128.out 3).trans rfl,(blk_cell BK128.out 4).trans rfl,(blk_cell BK128.out 5).trans rfl⟩ (fun hHeld=>?_)
 clear hK K
 refine norm_ (a':=?_) ?_ ?_
 rotate_left
 ·show Act.put _ (some 35) _ = _
  simp only [Act.put,List.setIfInBounds_toArray,List.set_cons_zero,List.set_cons_succ,i64_w,i32_w]
  rfl
 refine one_ (i:=31) (N:=some 36) (bq 33 4294967295) rfl rfl (one_of HT_.out (by kernel_rfl)) (by decide) (fun K hK=>?_)
 refine goes_ Tryz.func21 (by kernel_rfl) rfl #[.slice Ao15 y135.length co15] (by rfl) rfl rfl (by (try simp only [List.map_toArray,List.map_cons,List.map_nil]);first | done | rfl | (simp only [List.length_drop,List.length_take];rfl)) ?_
 with_reducible refine (cmp_Or_int.calls k _ _ y135 t138 _ ?side1 ?side2 A9.out).mono ?_
 (case side1=>repeat (first | exact (Kd.R_reads' HO137.out).2.2 | (with_reducible refine Kd.C_alloc ?_ _) | (with_reducible refine Kd.C_drewN ?_ _) | (with_reducible refine Kd.C_drew ?_)))
 (case side2=>exact (Kd.R_reads' HO137.out).2.1)
 rintro e w' ⟨rfl,⟨nd,rfl⟩⟩
 refine ⟨_,rfl,?_⟩
 refine hK.out _ _ ⟨(blk_cell BK127.out 0).trans rfl,(blk_cell BK127.out 1).trans rfl,(blk_cell BK127.out 2).trans rfl,(blk_cell BK127.out 3).trans rfl,(blk_cell BK127.out 4).trans rfl,(blk_cell BK127.out 5).trans rfl,(blk_cell BK128.out 0).trans rfl,(blk_cell BK128.out 1).trans rfl,(blk_cell BK128.out 2).trans rfl,(blk_cell BK128.out 3).trans rfl,(blk_cell BK128.out 4).trans rfl,(blk_cell BK128.out 5).trans rfl⟩ (fun hHeld=>?_)
 clear hK K
 refine norm_ (a':=?_) ?_ ?_
 rotate_left
 ·show Act.put _ (some 36) _ = _
  simp only [Act.put,List.setIfInBounds_toArray,List.set_cons_zero,List.set_cons_succ,i64_w,i32_w]
  rfl
 refine pu_ 32 (some 4) (bq 33 8589934591) HT_ rfl rfl ?_
 refine done_ (done_of HT_.out (by kernel_rfl)) ?_
 try go_wp2
 go_ret
 exact ⟨by first | rfl | (simp [errW_none,errW_some] <;> rfl) | (simp [*,errW_none,errW_some] <;> rfl),by repeat (first | (with_reducible first | exact HB.out | apply below_alloc | apply pw_below_drewN | apply below_drew1 | refine below_set ?_ GE127.out | refine below_set ?_ GE128.out) | exact HB.out)⟩
end Go.Proofs.YtdadnapfecmmdaaGreat.P
namespace Go.Proofs.YtdadnapfecmmdaaGreat.P
set_option linter.unusedVariables false
set_option linter.unusedSimpArgs false
open Go.RowKit Go.Proofs.YtdadnapfecmmdaaGreatW.PrintWords Go.Proofs.YtdadnapfecmmdaaGreatW.PrintLast Go.Proofs.YtdadnapfecmmdaaGreatW.PrintMore
open Go.Proofs.YtdadnapfecmmdaaGreat.Hm
theorem within_total (s:ByteArray) (lo hi:Int) (hn:s.size ≤ 64) (d:Nat):∀ (k:Nat) (i:Int),0 ≤ i→i ≤ s.size→(s.size:Int) - i = d→d < k→∃ b,attribute_within.l0 k s lo hi (s.size:Int) i = some b:=by
 induction d with
 | zero=>
  intro k i h0 h1 hd hk
  obtain ⟨k,rfl⟩:∃ m,k = m + 1:=⟨k - 1,by omega⟩
  exact ⟨true,by simp only [attribute_within.l0];rw [if_neg (by omega)]⟩
 | succ d ih=>
  intro k i h0 h1 hd hk
  obtain ⟨k,rfl⟩:∃ m,k = m + 1:=⟨k - 1,by omega⟩
  obtain ⟨b,hb⟩:=ih k (i + 1) (by omega) (by omega) (by omega) (by omega)
  have hw:wrap64 (i + 1) = i + 1:=by unfold wrap64;omega
  simp only [attribute_within.l0]
  rw [if_pos (by omega),if_pos h0,if_pos (by omega),hw,hb]
  split
  ·exact ⟨_,rfl⟩
  ·split
   ·exact ⟨_,rfl⟩
   ·exact ⟨_,rfl⟩
theorem isName_total (s:ByteArray):∃ b,∀ k,attribute_IsName.f (k + 70) s = some b:=by
 by_cases h1:s.toList = []
 ·exact ⟨false,fun k=>by unfold attribute_IsName.f;rw [if_pos h1]⟩
 ·by_cases h2:(s.size:Int) ≤ 64
  ·obtain ⟨b,hb⟩:=within_total s 33 126 (by omega) s.size 70 0 (by omega) (by omega) (by omega) (by omega)
   refine ⟨b,fun k=>?_⟩
   have hm:∀ k,attribute_within.l0 (k + 70) s 33 126 (s.size:Int) 0 = some b:=by
    intro k
    induction k with
    | zero=>exact hb
    | succ k ih=>
     have:=attribute_within.mono_l (k + 70) s 33 126 (s.size:Int) 0 b ih
     rw [show k + 1 + 70 = k + 70 + 1 from by omega]
     exact this
   unfold attribute_IsName.f attribute_within.f
   rw [if_neg h1,if_pos h2,hm k]
   rfl
  ·exact ⟨false,fun k=>by unfold attribute_IsName.f;rw [if_neg h1,if_neg h2]⟩
def Tot {α:Type} (o:Option α):Prop:=∃ r,o = some r
theorem Tot.some {α:Type} (r:α):Tot (some r):=⟨r,rfl⟩
theorem Tot.ite {α:Type} {c:Prop} [Decidable c] {a b:Option α} (ha:Tot a) (hb:Tot b):Tot (if c then a else b):=by
 by_cases h:c
 ·rw [if_pos h];exact ha
 ·rw [if_neg h];exact hb
theorem Tot.bind {α β:Type} {a:Option α} {f:α→Option β} (ha:Tot a) (hf:∀ r,Tot (f r)):Tot (a.bind f):=by
 obtain ⟨r,rfl⟩:=ha
 exact hf r
theorem isName_tot (k:Nat) (s:ByteArray):Tot (attribute_IsName.f (k + 70) s):=by
 obtain ⟨b,h⟩:=isName_total s
 exact ⟨b,h k⟩
theorem checkOne_total (c:S98):Tot (deployment_checkOne.f (((((5 + 70) + 1) + 1) + 1) + 1) c.f0 c.f1 c.f2 c.f3 c.f4 c.f5):=by
 have j3:∀ a b t x0 x1 x2 x3 x4 x5,Tot (deployment_checkOne.j3 ((5 + 70) + 1) a b t x0 x1 x2 x3 x4 x5):=fun a b t x0 x1 x2 x3 x4 x5=>by
  rw [deployment_checkOne.j3]
  exact Tot.ite (Tot.some _) (Tot.bind (isName_tot 5 _) fun r=>Tot.ite (Tot.ite (Tot.bind (isName_tot 5 _) fun r=>Tot.ite (Tot.some _) (Tot.some _)) (Tot.some _)) (Tot.some _))
 have j2:∀ a b t x0 x1 x2 x3 x4 x5,Tot (deployment_checkOne.j2 (((5 + 70) + 1) + 1) a b t x0 x1 x2 x3 x4 x5):=fun a b t x0 x1 x2 x3 x4 x5=>by
  rw [deployment_checkOne.j2]
  exact Tot.ite (Tot.some _) (Tot.ite (j3 _ _ _ _ _ _ _ _ _) (j3 _ _ _ _ _ _ _ _ _))
 have j1:∀ a b t x0 x1 x2 x3 x4 x5,Tot (deployment_checkOne.j1 ((((5 + 70) + 1) + 1) + 1) a b t x0 x1 x2 x3 x4 x5):=fun a b t x0 x1 x2 x3 x4 x5=>by
  rw [deployment_checkOne.j1]
  exact Tot.ite (Tot.some _) (Tot.ite (j2 _ _ _ _ _ _ _ _ _) (j2 _ _ _ _ _ _ _ _ _))
 have j0:∀ a b x0 x1 x2 x3 x4 x5,Tot (deployment_checkOne.j0 (((((5 + 70) + 1) + 1) + 1) + 1) a b x0 x1 x2 x3 x4 x5):=fun a b x0 x1 x2 x3 x4 x5=>by
  rw [deployment_checkOne.j0]
  exact Tot.ite (j1 _ _ _ _ _ _ _ _ _) (j1 _ _ _ _ _ _ _ _ _)
 unfold deployment_checkOne.f
 exact Tot.ite (j0 _ _ _ _ _ _ _ _) (j0 _ _ _ _ _ _ _ _)
def chkOne (c:S98):Int:=(deployment_checkOne.f (((((5 + 70) + 1) + 1) + 1) + 1) c.f0 c.f1 c.f2 c.f3 c.f4 c.f5).getD 0
theorem chkOne_some (c:S98):deployment_checkOne.f (((((5 + 70) + 1) + 1) + 1) + 1) c.f0 c.f1 c.f2 c.f3 c.f4 c.f5 = some (chkOne c):=by
 obtain ⟨r,h⟩:=checkOne_total c
 unfold chkOne
 rw [h]
 rfl
theorem or_total (l:List Int) (hn:l.length ≤ 6) (d:Nat):∀ (k:Nat) (i:Int),0 ≤ i→i ≤ l.length→(l.length:Int) - i = d→d < k→∃ b,cmp_Or_int.l0 k 0 l (l.length:Int) i = some b:=by
 induction d with
 | zero=>
  intro k i h0 h1 hd hk
  obtain ⟨k,rfl⟩:∃ m,k = m + 1:=⟨k - 1,by omega⟩
  exact ⟨0,by simp only [cmp_Or_int.l0];rw [if_neg (by omega)]⟩
 | succ d ih=>
  intro k i h0 h1 hd hk
  obtain ⟨k,rfl⟩:∃ m,k = m + 1:=⟨k - 1,by omega⟩
  obtain ⟨b,hb⟩:=ih k (i + 1) (by omega) (by omega) (by omega) (by omega)
  have hw:wrap64 (i + 1) = i + 1:=by unfold wrap64;omega
  simp only [cmp_Or_int.l0]
  rw [if_pos (by omega),if_pos h0,if_pos (by omega),hw,hb]
  split
  ·exact ⟨_,rfl⟩
  ·exact ⟨_,rfl⟩
theorem cmpInt_total (a b:Int):∃ r,cmp_Compare_int.f a b = some r:=by
 unfold cmp_Compare_int.f cmp_isNaN_int.f
 simp only [Option.bind_some]
 (repeat' split) <;> exact ⟨_,rfl⟩
theorem chgCmp_total (a b:S98):∃ r,deployment_Compare.f 10 a.f0 a.f1 a.f2 a.f3 a.f4 a.f5 b.f0 b.f1 b.f2 b.f3 b.f4 b.f5 = some r:=by
 unfold deployment_Compare.f
 obtain ⟨r0,h0⟩:=cmpInt_total a.f2 b.f2
 obtain ⟨r1,h1⟩:=cmpInt_total a.f0 b.f0
 obtain ⟨r2,h2⟩:=cmpInt_total a.f1 b.f1
 rw [h0,h1,h2]
 simp only [Option.bind_some,cmp_Compare_string.f]
 obtain ⟨r,h⟩:=or_total [r0,r1,r2,cmpStr a.f3 b.f3,cmpStr a.f4 b.f4,cmpStr a.f5 b.f5] (by simp) 6 10 0 (by omega) (by simp) (by simp) (by omega)
 unfold cmp_Or_int.f
 rw [h]
 exact ⟨_,rfl⟩
def chgCmp (a b:S98):Int:=(deployment_Compare.f 10 a.f0 a.f1 a.f2 a.f3 a.f4 a.f5 b.f0 b.f1 b.f2 b.f3 b.f4 b.f5).getD 0
theorem chgCmp_some (a b:S98):deployment_Compare.f 10 a.f0 a.f1 a.f2 a.f3 a.f4 a.f5 b.f0 b.f1 b.f2 b.f3 b.f4 b.f5 = some (chgCmp a b):=by
 obtain ⟨r,h⟩:=chgCmp_total a b
 unfold chgCmp
 rw [h]
 rfl
def depCk (l:List S98):List (Int × Bool)→Nat→Nat→Int
 | _,_,0=>0
 | m,i,n + 1=>
  let c:=rd_T98 l i
  if chkOne c ≠ 0 then chkOne c
  else if 0 < i∧chgCmp c (rd_T98 l ((i:Int) - 1)) < 0 then 8
  else if (mget m c.f0).getD false = true then 9
  else depCk l (mput m c.f0 true) (i + 1) n
def depCheck (l:List S98):Int:=if l.length > 256 then 6 else depCk l [] 0 l.length
theorem zero4:∀ w:World,(zeroValue 4).run Tryz.prog w = .ok (.bool false) w:=fun _=>by kernel_rfl
theorem match_bool {α:Type} [DecidableEq α] (m:List (α × Bool)) (x:α):((mget m x).elim (Value.bool false) Value.bool) = Value.bool ((mget m x).getD false):=by
 cases mget m x <;> rfl
theorem checkOne_calls (c:S98) (w:World):Calls Tryz.prog 100 #[.agg #[.int .i64 c.f0,.int .i64 c.f1,.int .i64 c.f2,.string c.f3,.string c.f4,.string c.f5]] w fun e w'=>e = .returned (.int .i64 (chkOne c))∧Below w.heap.size w w':=
 deployment_checkOne.calls _ _ _ _ _ _ _ _ w (chkOne_some c)
theorem chgCmp_calls (a b:S98) (w:World):Calls Tryz.prog 101 #[.agg #[.int .i64 a.f0,.int .i64 a.f1,.int .i64 a.f2,.string a.f3,.string a.f4,.string a.f5],.agg #[.int .i64 b.f0,.int .i64 b.f1,.int .i64 b.f2,.string b.f3,.string b.f4,.string b.f5]] w fun e w'=>e = .returned (.int .i64 (chgCmp a b))∧Below w.heap.size w w':=
 deployment_Compare.calls _ _ _ _ _ _ _ _ _ _ _ _ _ _ w (chgCmp_some a b)
theorem rd_T98_get (xs:List S98) (k:Nat) (h:k < xs.length):rd_T98 xs (k:Int) = xs[k]:=by
 unfold rd_T98;simp [List.getD_eq_getElem?_getD,h]
set_option maxHeartbeats 4000000 in
set_option maxRecDepth 100000 in
theorem depCheck_calls (A:Option Addr) (cp:Nat) (l:List S98) (w:World) (hr:Kd.C k98 w A l.length l):
  Calls Tryz.prog 77 #[.slice A l.length cp] w fun e w'=>e = .returned (.int .i64 (depCheck l))∧Below w.heap.size w w':=by
 have hbig:l.length ≤ 9223372036854775807:=hr.2.1
 have HR:=Aside0.mk hr
 clear hr
 have hmm:=@run_makeMap Tryz.prog
 by_cases hlen:(256:Int) < (l.length:Int)
 ·have EO:Aside0 (depCheck l = 6):=⟨by unfold depCheck;rw [if_pos (by omega)]⟩
  go_enter Tryz.func77,Tryz.ntmps77
  go_wp2
  go_ret
  exact ⟨by rw [EO.out];rfl,Below.refl _ _⟩
 ·have EO:Aside0 (depCheck l = depCk l [] 0 l.length):=⟨by unfold depCheck;rw [if_neg (by omega)]⟩
  go_enter Tryz.func77,Tryz.ntmps77
  go_wp2
  go_loopg [13] l.length (fun gg s13 wr=>∃ (i:Nat) (m:List (Int × Bool)),i ≤ l.length∧l.length - i ≤ gg∧s13 = .int .i64 i∧Aside0 (depCk l m i (l.length - i) = depCheck l)∧Aside0 (MapIs wr w.heap.size (Value.int .i64) Value.bool m)∧Aside0 (Below w.heap.size w wr))
  case atStart=>exact ⟨0,[],Nat.zero_le _,by omega,by rfl,⟨EO.out.symm⟩,⟨MapIs.made _ _ _⟩,⟨below_alloc (Below.refl _ _) _⟩⟩
  case round=>
   obtain ⟨i,m,hi,hg,rfl,HA,HM,HB⟩:=hrel
   by_cases hlt:i < l.length
   ·have hil:(i:Int) < (l.length:Int):=by omega
    have hA:=HA.out
    rw [show l.length - i = (l.length - (i + 1)) + 1 from by omega] at hA
    unfold depCk at hA
    dsimp only at hA
    rw [rd_T98_get l i hlt] at hA
    obtain ⟨ad,e,h0,h1,h2,h3,h4,h5⟩:=at_T98 HR.out (i:Int) (by omega) (by omega)
    subst e
    rw [rd_T98_get l i hlt] at h0 h1 h2 h3 h4 h5
    simp only [Int.toNat_natCast] at h0 h1 h2 h3 h4 h5
    replace h0:=below_at HB.out h0
    replace h1:=below_at HB.out h1
    replace h2:=below_at HB.out h2
    replace h3:=below_at HB.out h3
    replace h4:=below_at HB.out h4
    replace h5:=below_at HB.out h5
    have hck:=checkOne_calls l[i]
    have hcp:=chgCmp_calls l[i] (rd_T98 l ((i:Int) - 1))
    have HX:=Aside0.mk (rfl:l[i] = l[i])
    generalize l[i] = c at h0 h1 h2 h3 h4 h5 hA hck hcp
    clear HX
    have HC:=Aside0.mk hck
    have HP:=Aside0.mk hcp
    clear hck hcp
    by_cases k1:chkOne c = 0
    ·rw [if_neg (by simpa using k1)] at hA
     have k1b:(chkOne c != 0) = false:=by simpa using k1
     clear k1
     go_wp2_with fail
     refine (HC.out _).mono ?_
     rintro e w1 ⟨rfl,hb1⟩
     have hz:wr.heap.size + 1 ≤ w1.heap.size:=by have:=hb1.size;simpa using this
     have q0:w1.cell? ⟨wr.heap.size,0,none⟩ = some (.int .i64 c.f0):=(hb1.cell (p:=⟨wr.heap.size,0,none⟩) (by simp)).trans (by simp)
     have q1:w1.cell? ⟨wr.heap.size,1,none⟩ = some (.int .i64 c.f1):=(hb1.cell (p:=⟨wr.heap.size,1,none⟩) (by simp)).trans (by simp)
     have q2:w1.cell? ⟨wr.heap.size,2,none⟩ = some (.int .i64 c.f2):=(hb1.cell (p:=⟨wr.heap.size,2,none⟩) (by simp)).trans (by simp)
     have q3:w1.cell? ⟨wr.heap.size,3,none⟩ = some (.string c.f3):=(hb1.cell (p:=⟨wr.heap.size,3,none⟩) (by simp)).trans (by simp)
     have q4:w1.cell? ⟨wr.heap.size,4,none⟩ = some (.string c.f4):=(hb1.cell (p:=⟨wr.heap.size,4,none⟩) (by simp)).trans (by simp)
     have q5:w1.cell? ⟨wr.heap.size,5,none⟩ = some (.string c.f5):=(hb1.cell (p:=⟨wr.heap.size,5,none⟩) (by simp)).trans (by simp)
     have HB1:=Aside0.mk (below_step (below_alloc HB.out _) hb1)
     have HM1:=Aside0.mk ((HM.out.alloc _).below hb1)
     clear HB HM h0 h1 h2 h3 h4 h5
     by_cases hi0:0 < i
     ·obtain ⟨ad',e',p0,p1,p2,p3,p4,p5⟩:=at_T98 HR.out ((i:Int) - 1) (by omega) (by omega)
      cases e'
      generalize rd_T98 l ((i:Int) - 1) = cq at p0 p1 p2 p3 p4 p5 hA HP
      rw [show ((i:Int) - 1).toNat = i - 1 from by omega] at p0 p1 p2 p3 p4 p5
      replace p0:=below_at HB1.out p0
      replace p1:=below_at HB1.out p1
      replace p2:=below_at HB1.out p2
      replace p3:=below_at HB1.out p3
      replace p4:=below_at HB1.out p4
      replace p5:=below_at HB1.out p5
      have g0:decide ((0:Int) < (i:Int)) = true:=by simpa using hi0
      go_wp2_with fail
      refine wp_region_still_tail 9 (by kernel_rfl) (by kernel_rfl) ?_
      rw [show ({ heap:=w1.heap,tape:=w1.tape,drawn:=w1.drawn + 1,os:=w1.os,output:=w1.output }:World) = w1.drew from rfl]
      have hd:Below w1.heap.size w1 w1.drew:=(Below.refl _ _).drew
      have hz2:wr.heap.size + 1 ≤ w1.drew.heap.size:=hz
      replace p0:=below_at hd p0
      replace p1:=below_at hd p1
      replace p2:=below_at hd p2
      replace p3:=below_at hd p3
      replace p4:=below_at hd p4
      replace p5:=below_at hd p5
      replace q0:=below_at hd q0
      replace q1:=below_at hd q1
      replace q2:=below_at hd q2
      replace q3:=below_at hd q3
      replace q4:=below_at hd q4
      replace q5:=below_at hd q5
      have HB2:=Aside0.mk (below_step HB1.out hd)
      have HM2:=Aside0.mk (HM1.out.below hd)
      clear HB1 HM1 hd hz hb1
      generalize w1.drew = W2 at *
      clear w1
      simp only [List.take_succ_cons,List.take_zero,List.drop_succ_cons,List.drop_zero]
      have s1:IntKind.i64.wrap ((i:Int) - 1) = (i:Int) - 1:=IntWalk.i64_in _ (by omega)
      have s2:(0:Int) ≤ (i:Int) - 1:=by omega
      have s5:(1:Int) ≤ (i:Int):=by omega
      have s3:((i:Int) - 1).toNat = i - 1:=by omega
      have s4:(i:Int) - 1 < (l.length:Int):=by omega
      repeat still_step
      refine wpStill_nil ?_
      clear s1 s2 s3 s4 s5
      by_cases k3:chgCmp c cq < 0
      ·rw [if_pos ⟨hi0,k3⟩] at hA
       have hA':=Aside0.mk hA
       clear hA
       go_wp2_with (go_at_call 101;refine (HP.out _).mono ?_;rintro e w2 ⟨rfl,hb2⟩)
       go_ret
       exact ⟨by rw [hA'.out];rfl,below_step HB2.out hb2⟩
      ·rw [if_neg (fun h=>k3 h.2)] at hA
       by_cases k2:(mget m c.f0).getD false = true
       ·rw [if_pos k2] at hA
        have hA':=Aside0.mk hA
        clear hA
        go_wp2_with fail
        refine (HP.out _).mono ?_
        rintro e w2 ⟨rfl,hb2⟩
        have HB3:=Aside0.mk (below_step HB2.out hb2)
        have HM3:=Aside0.mk (HM2.out.below hb2)
        replace q0:=below_at hb2 q0
        go_wp2_with (first | (at_lookup;refine wp_look rfl _ _ rfl Tryz.underlying173 Tryz.underlying3 (enc_int .i64) HM3.out rfl _ rfl (zero4 _) ?_;rw [match_bool]))
        go_ret
        exact ⟨by rw [hA'.out];rfl,HB3.out⟩
       ·rw [if_neg k2] at hA
        have hA':=Aside0.mk hA
        clear hA
        replace k2:(mget m c.f0).getD false = false:=by simpa using k2
        go_wp2_with fail
        refine (HP.out _).mono ?_
        rintro e w2 ⟨rfl,hb2⟩
        have HB3:=Aside0.mk (below_step HB2.out hb2)
        have HM3:=Aside0.mk (HM2.out.below hb2)
        replace q0:=below_at hb2 q0
        go_wp2_with (first | (at_lookup;refine wp_look rfl _ _ rfl Tryz.underlying173 Tryz.underlying3 (enc_int .i64) HM3.out rfl _ rfl (zero4 _) ?_;rw [match_bool]) | (at_mapUpdate;refine wp_store rfl _ _ _ rfl Tryz.underlying173 Tryz.underlying3 (enc_int .i64) HM3.out rfl _ true rfl rfl ?_;intro w3 hm3 hg3))
        go_roundg (l.length - (i + 1))
        case measure=>omega
        case rel=>exact ⟨i + 1,mput m c.f0 true,by omega,Nat.le_refl _,by go_num,⟨hA'.out⟩,⟨hm3⟩,⟨HB3.out.grown hg3 HB3.out.size (fun z hz=>by simp at hz;omega)⟩⟩
     ·rw [if_neg (fun h=>hi0 h.1)] at hA
      have g0:decide ((0:Int) < (i:Int)) = false:=by simpa using hi0
      by_cases k2:(mget m c.f0).getD false = true
      ·rw [if_pos k2] at hA
       have hA':=Aside0.mk hA
       clear hA
       go_wp2_with fail
       go_quiet (fail)
       go_wp2_with (first | (at_lookup;refine wp_look rfl _ _ rfl Tryz.underlying173 Tryz.underlying3 (enc_int .i64) HM1.out rfl _ rfl (zero4 _) ?_;rw [match_bool]))
       go_ret
       exact ⟨by rw [hA'.out];rfl,pw_below_drewN HB1.out _⟩
      ·rw [if_neg k2] at hA
       have hA':=Aside0.mk hA
       clear hA
       replace k2:(mget m c.f0).getD false = false:=by simpa using k2
       go_wp2_with fail
       go_quiet (fail)
       go_wp2_with (first | (at_lookup;refine wp_look rfl _ _ rfl Tryz.underlying173 Tryz.underlying3 (enc_int .i64) HM1.out rfl _ rfl (zero4 _) ?_;rw [match_bool]) | (at_mapUpdate;refine wp_store rfl _ _ _ rfl Tryz.underlying173 Tryz.underlying3 (enc_int .i64) HM1.out rfl _ true rfl rfl ?_;intro w3 hm3 hg3))
       go_roundg (l.length - (i + 1))
       case measure=>omega
       case rel=>exact ⟨i + 1,mput m c.f0 true,by omega,Nat.le_refl _,by go_num,⟨hA'.out⟩,⟨hm3⟩,⟨(pw_below_drewN HB1.out _).grown hg3 (pw_below_drewN HB1.out _).size (fun z hz=>by simp at hz;omega)⟩⟩
    ·rw [if_pos k1] at hA
     have hA':=Aside0.mk hA
     have k1b:(chkOne c != 0) = true:=by simpa using k1
     clear hA k1
     go_wp2_with (go_at_call 100;refine (HC.out _).mono ?_;rintro e w1 ⟨rfl,hb1⟩)
     go_ret
     exact ⟨by rw [hA'.out];rfl,below_step (below_alloc HB.out _) hb1⟩
   ·obtain rfl:i = l.length:=by omega
    have hA:Aside0 (depCheck l = 0):=⟨by have:=HA.out;rw [Nat.sub_self] at this;rw [← this];rfl⟩
    go_wp2
    go_ret
    exact ⟨by rw [hA.out];rfl,HB.out⟩
def NameOk (s:ByteArray):Prop:=∀ k,70 ≤ k→attribute_IsName.f k s = some true
theorem NameOk.of {s:ByteArray} (h:attribute_IsName.f 70 s = some true):NameOk s:=by
 obtain ⟨b,hb⟩:=isName_total s
 have h0:=hb 0
 rw [Nat.zero_add,h] at h0
 obtain rfl:=Option.some.inj h0
 intro k hk
 have:=hb (k - 70)
 rwa [show k - 70 + 70 = k from by omega] at this
theorem rd64 (l:List S51) (i:Nat) (h:i < l.length):rd_T51 l (i:Int) = l[i]:=by
 unfold rd_T51;simp [List.getD_eq_getElem?_getD,h]
theorem rd91 (l:List S54) (i:Nat) (h:i < l.length):rd_T54 l (i:Int) = l[i]:=by
 unfold rd_T54;simp [List.getD_eq_getElem?_getD,h]
theorem rd61 (l:List S61) (i:Nat) (h:i < l.length):rd_T61 l (i:Int) = l[i]:=by
 unfold rd_T61;simp [List.getD_eq_getElem?_getD,h]
section
variable (c:Cfg)
structure Valid:Prop where
 seed0:0 ≤ c.seed
 seed1:c.seed ≤ 1048576
 n0:1 ≤ c.sv.length
 n1:c.sv.length ≤ 16
 nf:c.fl.length ≤ 16
 sname:∀ i (h:i < c.sv.length),NameOk c.sv[i].f0
 sidx:∀ i (h:i < c.sv.length),(i:Int) ≤ svIdx c.sv c.sv[i].f0
 srange:∀ i (h:i < c.sv.length),1 ≤ c.sv[i].f1∧c.sv[i].f1 ≤ 1048576∧0 ≤ c.sv[i].f2∧c.sv[i].f2 ≤ 1048576∧0 ≤ c.sv[i].f3∧c.sv[i].f3 ≤ 1048576∧0 ≤ c.sv[i].f4∧c.sv[i].f4 ≤ 1000000
 slen:∀ i (h:i < c.sv.length),c.sv[i].f5.length ≤ 8
 scall:∀ i (h:i < c.sv.length),∀ nm ∈ c.sv[i].f5,(i:Int) < svIdx c.sv nm
 off:∀ i (h:i < c.off.length),1 ≤ c.off[i].f0∧c.off[i].f0 ≤ 1048576∧-1048576 ≤ c.off[i].f1∧c.off[i].f1 ≤ 1048576
 offn:c.off.length ≤ 1000
 offo:∀ i (h:i + 1 < c.off.length),c.off[i].f0 < c.off[i + 1].f0
 gap:∀ i (h:i < c.sv.length),(offOf c.off c.sv[i].f1).2 = true
 ch:depCheck c.ch = 0
 fsvc:∀ i (h:i < c.fl.length),0 ≤ svIdx c.sv c.fl[i].f0
 fver:∀ i (h:i < c.fl.length),c.fl[i].f1.toList = [] ∨ NameOk c.fl[i].f1
 fwhen:∀ i (h:i < c.fl.length),0 ≤ c.fl[i].f2.f0∧c.fl[i].f2.f0 < c.fl[i].f2.f1∧c.fl[i].f2.f1 ≤ 1048577
 frange:∀ i (h:i < c.fl.length),0 ≤ c.fl[i].f3∧c.fl[i].f3 ≤ 1048576∧0 ≤ c.fl[i].f4∧c.fl[i].f4 ≤ 1000000
 t0:0 ≤ c.sfrom
 t1:c.sfrom ≤ c.sto
 t2:c.sto ≤ 1048576
 t3:c.sto - c.sfrom ≤ 64
 per0:0 ≤ c.per
 per1:c.per ≤ 16
 del0:0 ≤ c.delay
 del1:c.delay ≤ 1048576
 chu0:1 ≤ c.chunk
 chu1:c.chunk ≤ 64
 los0:0 ≤ c.loss
 los1:c.loss ≤ 1000000
 rep0:0 ≤ c.rep
 rep1:c.rep ≤ 1000000
 cnt:cntOf c.sv ≤ 256
end
theorem ckD_calls (c:Cfg) (p:CfgAt) (g:Nat) (w:World) (hR:CfgR w p c) (hg:w.heap[g]? = some (.cells (c.cells p) 36 (0,0))):
  Calls Tryz.prog 76 #[.pointer (some ⟨g,0,none⟩)] w fun e w'=>e = .returned (.int .i64 (depCheck c.ch))∧Below w.heap.size w w':=by
 have q3:w.cell? ⟨g,3,none⟩ = some (.slice p.A3 c.ch.length p.c3):=(blk_cell hg 3).trans rfl
 have HC:=Aside0.mk (depCheck_calls p.A3 p.c3 c.ch w hR.r3)
 clear hR hg
 generalize depCheck c.ch = r at HC
 go_enter Tryz.func76,Tryz.ntmps76
 go_wp2_with (go_at_call 77;refine HC.out.mono ?_;rintro e w1 ⟨rfl,hb1⟩)
 go_ret
 exact ⟨rfl,hb1⟩
theorem outside_calls (n a b:Int) (w:World):Calls Tryz.prog 73 #[.int .i64 n,.int .i64 a,.int .i64 b] w fun e w'=>e = .returned (.bool (decide (n < a ∨ b < n)))∧Drawn0 w w':=by
 refine simulate_outside.calls n a b _ w ?_
 unfold simulate_outside.f
 by_cases h:n < a
 ·simp [h]
 ·simp [h]
theorem cfg12 {c:Cfg} {p:CfgAt} {W:World} {g:Nat} (h:W.heap[g]? = some (.cells (c.cells p) 36 (0,0))):W.cell? ⟨g,0,none⟩ = some (.int .i64 c.seed)∧W.cell? ⟨g,1,none⟩ = some (.slice p.A1 c.sv.length p.c1)∧W.cell? ⟨g,2,none⟩ = some (.slice p.A2 c.off.length p.c2)∧W.cell? ⟨g,3,none⟩ = some (.slice p.A3 c.ch.length p.c3)∧W.cell? ⟨g,4,none⟩ = some (.slice p.A4 c.fl.length p.c4)∧W.cell? ⟨g,5,none⟩ = some (.int .i64 c.sfrom)∧W.cell? ⟨g,6,none⟩ = some (.int .i64 c.sto)∧W.cell? ⟨g,7,none⟩ = some (.int .i64 c.per)∧W.cell? ⟨g,8,none⟩ = some (.int .i64 c.delay)∧W.cell? ⟨g,9,none⟩ = some (.int .i64 c.chunk)∧W.cell? ⟨g,10,none⟩ = some (.int .i64 c.loss)∧W.cell? ⟨g,11,none⟩ = some (.int .i64 c.rep):=
 ⟨(blk_cell h 0).trans rfl,(blk_cell h 1).trans rfl,(blk_cell h 2).trans rfl,(blk_cell h 3).trans rfl,(blk_cell h 4).trans rfl,(blk_cell h 5).trans rfl,(blk_cell h 6).trans rfl,(blk_cell h 7).trans rfl,(blk_cell h 8).trans rfl,(blk_cell h 9).trans rfl,(blk_cell h 10).trans rfl,(blk_cell h 11).trans rfl⟩
theorem outside_no (n a b:Int) (w:World) (h0:a ≤ n) (h1:n ≤ b):Calls Tryz.prog 73 #[.int .i64 n,.int .i64 a,.int .i64 b] w fun e w'=>e = .returned (.bool false)∧Below w.heap.size w w':=by
 refine (outside_calls n a b w).mono ?_
 rintro e w' ⟨rfl,nd,rfl⟩
 exact ⟨by rw [show decide (n < a ∨ b < n) = false from by simp;omega],pw_below_drewN (Below.refl _ _) nd⟩
set_option maxHeartbeats 2000000 in
set_option maxRecDepth 100000 in
theorem ckR_walk (c:Cfg) (p:CfgAt) (w:World) (hR:CfgR w p c) (hv:Valid c):Calls Tryz.prog 79 #[c.val p] w fun e w'=>e = .returned (.int .i64 0)∧Below w.heap.size w w':=by
 obtain ⟨A1,c1,A2,c2,A3,c3,A4,c4⟩:=p
 have HR:=Aside0.mk hR
 have HN:=Aside0.mk hv.n0
 have hcnt:=hv.cnt
 have a0:=hv.t0
 have a1:=hv.t1
 have a2:=hv.t2
 have a3:=hv.t3
 have a4:IntKind.i64.wrap (c.sto - c.sfrom) = c.sto - c.sfrom:=IntWalk.i64_in _ (by omega)
 have H1:=Aside0.mk (fun W=>outside_no c.per 0 16 W hv.per0 hv.per1)
 have H2:=Aside0.mk (fun W=>outside_no c.delay 0 1048576 W hv.del0 hv.del1)
 have H3:=Aside0.mk (fun W=>outside_no c.chunk 1 64 W hv.chu0 hv.chu1)
 have H4:=Aside0.mk (fun W=>outside_no c.loss 0 1000000 W hv.los0 hv.los1)
 have H5:=Aside0.mk (fun W=>outside_no c.rep 0 1000000 W hv.rep0 hv.rep1)
 clear hR hv
 go_enter Tryz.func79,Tryz.ntmps79
 have hb:=below_alloc (Below.refl w.heap.size w) (.cells (c.cells ⟨A1,c1,A2,c2,A3,c3,A4,c4⟩) 36)
 have hx:=blk_new w (.cells (c.cells ⟨A1,c1,A2,c2,A3,c3,A4,c4⟩) 36)
 go_wp2_with fail
 generalize w.alloc (.cells (c.cells ⟨A1,c1,A2,c2,A3,c3,A4,c4⟩) 36) = v0 at hx hb ⊢
 refine (H1.out _).mono ?_
 rintro e v1 ⟨rfl,hb1⟩
 replace hx:=blk_below hx hb1
 replace hb:=below_step hb hb1
 clear hb1
 have q8:v1.cell? ⟨w.heap.size,8,none⟩ = some (.int .i64 c.delay):=(blk_cell hx 8).trans rfl
 go_wp2_with fail
 refine (H2.out _).mono ?_
 rintro e v2 ⟨rfl,hb1⟩
 replace hx:=blk_below hx hb1
 replace hb:=below_step hb hb1
 clear hb1
 have q9:v2.cell? ⟨w.heap.size,9,none⟩ = some (.int .i64 c.chunk):=(blk_cell hx 9).trans rfl
 go_wp2_with fail
 refine (H3.out _).mono ?_
 rintro e v3 ⟨rfl,hb1⟩
 replace hx:=blk_below hx hb1
 replace hb:=below_step hb hb1
 clear hb1
 have q10:v3.cell? ⟨w.heap.size,10,none⟩ = some (.int .i64 c.loss):=(blk_cell hx 10).trans rfl
 go_wp2_with fail
 refine (H4.out _).mono ?_
 rintro e v4 ⟨rfl,hb1⟩
 replace hx:=blk_below hx hb1
 replace hb:=below_step hb hb1
 clear hb1
 have q11:v4.cell? ⟨w.heap.size,11,none⟩ = some (.int .i64 c.rep):=(blk_cell hx 11).trans rfl
 go_wp2_with fail
 refine (H5.out _).mono ?_
 rintro e v5 ⟨rfl,hb1⟩
 replace hx:=blk_below hx hb1
 replace hb:=below_step hb hb1
 clear hb1
 have q0:v5.cell? ⟨w.heap.size,0,none⟩ = some (.int .i64 c.seed):=(blk_cell hx 0).trans rfl
 have q1:v5.cell? ⟨w.heap.size,1,none⟩ = some (.slice A1 c.sv.length c1):=(blk_cell hx 1).trans rfl
 have q2:v5.cell? ⟨w.heap.size,2,none⟩ = some (.slice A2 c.off.length c2):=(blk_cell hx 2).trans rfl
 have q3:v5.cell? ⟨w.heap.size,3,none⟩ = some (.slice A3 c.ch.length c3):=(blk_cell hx 3).trans rfl
 have q4:v5.cell? ⟨w.heap.size,4,none⟩ = some (.slice A4 c.fl.length c4):=(blk_cell hx 4).trans rfl
 have q5:v5.cell? ⟨w.heap.size,5,none⟩ = some (.int .i64 c.sfrom):=(blk_cell hx 5).trans rfl
 have q6:v5.cell? ⟨w.heap.size,6,none⟩ = some (.int .i64 c.sto):=(blk_cell hx 6).trans rfl
 have q7:v5.cell? ⟨w.heap.size,7,none⟩ = some (.int .i64 c.per):=(blk_cell hx 7).trans rfl
 have q8:v5.cell? ⟨w.heap.size,8,none⟩ = some (.int .i64 c.delay):=(blk_cell hx 8).trans rfl
 have q9:v5.cell? ⟨w.heap.size,9,none⟩ = some (.int .i64 c.chunk):=(blk_cell hx 9).trans rfl
 have q10:v5.cell? ⟨w.heap.size,10,none⟩ = some (.int .i64 c.loss):=(blk_cell hx 10).trans rfl
 have q11:v5.cell? ⟨w.heap.size,11,none⟩ = some (.int .i64 c.rep):=(blk_cell hx 11).trans rfl
 go_wp2_with fail
 refine (count_calls c ⟨A1,c1,A2,c2,A3,c3,A4,c4⟩ _ (HR.out.below hb) HN.out).mono ?_
 rintro e v6 ⟨rfl,hb1⟩
 go_wp2_with fail
 go_ret
 exact ⟨by rfl,below_step hb hb1⟩
theorem name_calls (s:ByteArray) (h:NameOk s) (w:World):Calls Tryz.prog 98 #[.string s] w fun e w'=>e = .returned (.bool true)∧Below w.heap.size w w':=by
 refine (attribute_IsName.calls 70 s true w (h 70 (Nat.le_refl _))).mono ?_
 rintro e w' ⟨rfl,hb⟩
 first | exact ⟨rfl,hb⟩ | (obtain ⟨nd,rfl⟩:=hb;exact ⟨rfl,pw_below_drewN (Below.refl _ _) nd⟩)
set_option maxHeartbeats 2000000 in
set_option maxRecDepth 100000 in
theorem ckF_walk (c:Cfg) (p:CfgAt) (w:World) (hR:CfgR w p c) (hv:Valid c):Calls Tryz.prog 78 #[c.val p] w fun e w'=>e = .returned (.int .i64 0)∧Below w.heap.size w w':=by
 obtain ⟨A1,c1,A2,c2,A3,c3,A4,c4⟩:=p
 have HR:=Aside0.mk hR
 have HV:=Aside0.mk hv
 have hn:=hv.nf
 have HX0:=Aside0.mk (blk_new w (.cells (c.cells ⟨A1,c1,A2,c2,A3,c3,A4,c4⟩) 36))
 have HB0:=Aside0.mk (below_alloc (Below.refl w.heap.size w) (.cells (c.cells ⟨A1,c1,A2,c2,A3,c3,A4,c4⟩) 36))
 clear hR hv
 go_enter Tryz.func78,Tryz.ntmps78
 go_wp2_with fail
 go_loopg [4,8] c.fl.length (fun gg s4 s8 wr=>∃ i:Nat,i ≤ c.fl.length∧c.fl.length - i ≤ gg∧s8 = .int .i64 (i:Int)∧Aside0 (wr.heap[w.heap.size]? = some (.cells (c.cells ⟨A1,c1,A2,c2,A3,c3,A4,c4⟩) 36 (0,0)))∧Aside0 (Below w.heap.size w wr))
 case atStart=>exact ⟨0,Nat.zero_le _,by omega,rfl,HX0,HB0⟩
 case round=>
 obtain ⟨i,hi,hgi,rfl,HX,HB⟩:=hrel
 by_cases hlt:i < c.fl.length
 ·have hs:=HV.out.fsvc i hlt
  have hvr:=HV.out.fver i hlt
  obtain ⟨w0,w1',w2⟩:=HV.out.fwhen i hlt
  obtain ⟨r0,r1,r2,r3⟩:=HV.out.frange i hlt
  obtain ⟨ad,e,t0,t1,t2,t3,t4,t5⟩:=at_T61 HR.out.r4 (i:Int) (by omega) (by omega)
  dsimp only at e
  subst e
  simp only [Int.toNat_natCast] at t0 t1 t2 t3 t4 t5
  rw [rd61 c.fl i hlt] at t0 t1 t2 t3 t4 t5
  generalize c.fl[i] = x at hs hvr w0 w1' w2 r0 r1 r2 r3 t0 t1 t2 t3 t4 t5
  replace t0:=below_at HB.out t0
  replace t1:=below_at HB.out t1
  replace t2:=below_at HB.out t2
  replace t3:=below_at HB.out t3
  replace t4:=below_at HB.out t4
  replace t5:=below_at HB.out t5
  have hz1:(i:Int) < (c.fl.length:Int):=by omega
  go_upto_region 4 with fail
  have HX1:=Aside0.mk (blk_alloc HX.out (.cells #[.string x.f0,.string x.f1,.int .i64 x.f2.f0,.int .i64 x.f2.f1,.int .i64 x.f3,.int .i64 x.f4] 61))
  have HY1:=Aside0.mk (blk_new wr (.cells #[.string x.f0,.string x.f1,.int .i64 x.f2.f0,.int .i64 x.f2.f1,.int .i64 x.f3,.int .i64 x.f4] 61))
  have HB1:=Aside0.mk (below_alloc HB.out (.cells #[.string x.f0,.string x.f1,.int .i64 x.f2.f0,.int .i64 x.f2.f1,.int .i64 x.f3,.int .i64 x.f4] 61))
  clear t0 t1 t2 t3 t4 t5
  generalize hgb:wr.heap.size = gb at HY1 ⊢
  generalize wr.alloc (.cells #[.string x.f0,.string x.f1,.int .i64 x.f2.f0,.int .i64 x.f2.f1,.int .i64 x.f3,.int .i64 x.f4] 61) = v0 at HX1 HY1 HB1 ⊢
  have q0:v0.cell? ⟨w.heap.size,0,none⟩ = some (.int .i64 c.seed):=(blk_cell HX1.out 0).trans rfl
  have q1:v0.cell? ⟨w.heap.size,1,none⟩ = some (.slice A1 c.sv.length c1):=(blk_cell HX1.out 1).trans rfl
  have q2:v0.cell? ⟨w.heap.size,2,none⟩ = some (.slice A2 c.off.length c2):=(blk_cell HX1.out 2).trans rfl
  have q3:v0.cell? ⟨w.heap.size,3,none⟩ = some (.slice A3 c.ch.length c3):=(blk_cell HX1.out 3).trans rfl
  have q4:v0.cell? ⟨w.heap.size,4,none⟩ = some (.slice (some ad) c.fl.length c4):=(blk_cell HX1.out 4).trans rfl
  have q5:v0.cell? ⟨w.heap.size,5,none⟩ = some (.int .i64 c.sfrom):=(blk_cell HX1.out 5).trans rfl
  have q6:v0.cell? ⟨w.heap.size,6,none⟩ = some (.int .i64 c.sto):=(blk_cell HX1.out 6).trans rfl
  have q7:v0.cell? ⟨w.heap.size,7,none⟩ = some (.int .i64 c.per):=(blk_cell HX1.out 7).trans rfl
  have q8:v0.cell? ⟨w.heap.size,8,none⟩ = some (.int .i64 c.delay):=(blk_cell HX1.out 8).trans rfl
  have q9:v0.cell? ⟨w.heap.size,9,none⟩ = some (.int .i64 c.chunk):=(blk_cell HX1.out 9).trans rfl
  have q10:v0.cell? ⟨w.heap.size,10,none⟩ = some (.int .i64 c.loss):=(blk_cell HX1.out 10).trans rfl
  have q11:v0.cell? ⟨w.heap.size,11,none⟩ = some (.int .i64 c.rep):=(blk_cell HX1.out 11).trans rfl
  have y0:v0.cell? ⟨gb,0,none⟩ = some (.string x.f0):=(blk_cell HY1.out 0).trans rfl
  go_wp2_with fail
  refine (index_calls c ⟨A1,c1,A2,c2,A3,c3,(some ad),c4⟩ x.f0 _ (HR.out.below HB1.out)).mono ?_
  rintro e v1 ⟨rfl,hb1⟩
  have hx:=blk_below HX1.out hb1
  have hy:=blk_below HY1.out hb1
  have hb:=below_step HB1.out hb1
  clear hb1 HX1 HY1 HB1 y0 q0 q1 q2 q3 q4 q5 q6 q7 q8 q9 q10 q11
  have y1:v1.cell? ⟨gb,1,none⟩ = some (.string x.f1):=(blk_cell hy 1).trans rfl
  have z1:(svIdx c.sv x.f0 < 0) = False:=eq_false (by omega)
  have z2:decide (svIdx c.sv x.f0 < 0) = false:=by simp;omega
  generalize svIdx c.sv x.f0 = si at z1 z2 ⊢
  go_upto_region 6 with fail
  have HX:=Aside0.mk hx
  have HY:=Aside0.mk hy
  have HB:=Aside0.mk hb
  clear hx hy hb
  go_cut [18] (fun s18 wz=>s18 = .bool false∧Aside0 (wz.heap[w.heap.size]? = some (.cells (c.cells ⟨A1,c1,A2,c2,A3,c3,(some ad),c4⟩) 36 (0,0)))∧Aside0 (wz.heap[gb]? = some (.cells #[.string x.f0,.string x.f1,.int .i64 x.f2.f0,.int .i64 x.f2.f1,.int .i64 x.f3,.int .i64 x.f4] 61 (0,0)))∧Aside0 (Below w.heap.size w wz))
  case first=>
   by_cases hE:x.f1.toList = []
   ·have e1:x.f1.toList.isEmpty = true:=by rw [hE];rfl
    go_wp2_with fail
    go_meet
    exact ⟨rfl,HX,HY,HB⟩
   ·have e1:x.f1.toList.isEmpty = false:=by simpa using hE
    have hnm:=Aside0.mk (hvr.resolve_left hE)
    clear hE hvr
    go_wp2_with fail
    refine (name_calls x.f1 hnm.out _).mono ?_
    rintro e v2 ⟨rfl,hb1⟩
    go_wp2_with fail
    go_meet
    exact ⟨rfl,⟨blk_below HX.out hb1⟩,⟨blk_below HY.out hb1⟩,⟨below_step HB.out hb1⟩⟩
  case rest=>
   clear HX HY HB y1 z1 z2
   obtain ⟨rfl,HX,HY,HB⟩:=hcut
   have y2:wc.cell? ⟨gb,2,none⟩ = some (.int .i64 x.f2.f0):=(blk_cell HY.out 2).trans rfl
   have y3:wc.cell? ⟨gb,3,none⟩ = some (.int .i64 x.f2.f1):=(blk_cell HY.out 3).trans rfl
   have y4:wc.cell? ⟨gb,4,none⟩ = some (.int .i64 x.f3):=(blk_cell HY.out 4).trans rfl
   have H4:=Aside0.mk (fun W=>outside_no x.f3 0 1048576 W r0 r1)
   have H5:=Aside0.mk (fun W=>outside_no x.f4 0 1000000 W r2 r3)
   clear hs hvr r0 r1 r2 r3
   go_wp2_with fail
   refine (H4.out _).mono ?_
   rintro e v2 ⟨rfl,hb2⟩
   have hy:=blk_below HY.out hb2
   have HX2:=Aside0.mk (blk_below HX.out hb2)
   have HB2:=Aside0.mk (below_step HB.out hb2)
   have y5:v2.cell? ⟨gb,5,none⟩ = some (.int .i64 x.f4):=(blk_cell hy 5).trans rfl
   clear hy hb2 y2 y3 y4 HX HY HB
   go_wp2_with fail
   refine (H5.out _).mono ?_
   rintro e v3 ⟨rfl,hb3⟩
   have HX3:=Aside0.mk (blk_below HX2.out hb3)
   have HB3:=Aside0.mk (below_step HB2.out hb3)
   clear hb3 y5 HX2 HB2
   go_wp2_with fail
   go_roundg (c.fl.length - (i + 1))
   case measure=>omega
   case rel=>exact ⟨i + 1,by omega,by omega,by first | rfl | go_num,HX3,HB3⟩
 ·have hz1:decide (i < c.fl.length) = false:=by simp;omega
  have hz2:decide ((i:Int) < (c.fl.length:Int)) = false:=by simp;omega
  clear hlt
  go_wp2
  go_ret
  exact ⟨rfl,HB.out⟩
def ckoT.T6:Bool × List (List Nat × List Nat):=(true,[([],[]),([0],[0]),([1],[1]),([2],[2]),([3,2],[2,3]),([2],[2]),([5,2],[2,5]),([2],[2]),([7,2],[2,7]),([6,8,2],[2,6,8]),([9,2],[2,9]),([10,2],[2,10]),([4,11,2],[2,4,11]),([2,12],[2,12]),([13,2],[13])])
def ckoT.B6:List Nat:=[0,1,3,7,15,7,39,7,135,487,999,2023,4095,8191,16383]
theorem ckoT.tab6:rtab .any (opsOf Tryz.f75 6) = ckoT.T6:=by kernel_rfl
theorem ckoT.bits6:waitsOk ckoT.T6.2 ckoT.B6 = true:=by kernel_rfl
set_option maxHeartbeats 2000000 in
set_option maxRecDepth 100000 in
theorem ckO_walk (c:Cfg) (p:CfgAt) (w:World) (hR:CfgR w p c) (hv:Valid c):Calls Tryz.prog 75 #[c.val p] w fun e w'=>e = .returned (.int .i64 0)∧Below w.heap.size w w':=by
 obtain ⟨A1,c1,A2,c2,A3,c3,A4,c4⟩:=p
 have HR:=Aside0.mk hR
 have HV:=Aside0.mk hv
 have hn:=hv.offn
 have hn1:=hv.n1
 have HX0:=Aside0.mk (blk_new w (.cells (c.cells ⟨A1,c1,A2,c2,A3,c3,A4,c4⟩) 36))
 have HB0:=Aside0.mk (below_alloc (Below.refl w.heap.size w) (.cells (c.cells ⟨A1,c1,A2,c2,A3,c3,A4,c4⟩) 36))
 clear hR hv
 go_enter Tryz.func75,Tryz.ntmps75
 go_wp2_with fail
 go_loopg [3,4,12] c.off.length (fun gg s3 s4 s12 wr=>∃ i:Nat,i ≤ c.off.length∧c.off.length - i ≤ gg∧s12 = .int .i64 (i:Int)∧Aside0 (wr.heap[w.heap.size]? = some (.cells (c.cells ⟨A1,c1,A2,c2,A3,c3,A4,c4⟩) 36 (0,0)))∧Aside0 (Below w.heap.size w wr))
 case atStart=>exact ⟨0,Nat.zero_le _,by omega,rfl,HX0,HB0⟩
 case round=>
 obtain ⟨i,hi,hgi,rfl,HX,HB⟩:=hrel
 by_cases hlt:i < c.off.length
 ·obtain ⟨r0,r1,r2,r3⟩:=HV.out.off i hlt
  have ho:0 < i→c.off[i - 1].f0 < c.off[i].f0:=fun h=>by
   have:=HV.out.offo (i - 1) (by omega)
   simpa only [show i - 1 + 1 = i from by omega] using this
  obtain ⟨ad,e,t0,t1⟩:=at_T54 HR.out.r2 (i:Int) (by omega) (by omega)
  obtain ⟨ad2,e2,u0,-⟩:=at_T54 HR.out.r2 ((i - 1:Nat):Int) (by omega) (by omega)
  dsimp only at e e2
  subst e
  obtain rfl:ad = ad2:=by injection e2
  clear e2
  simp only [Int.toNat_natCast] at t0 t1 u0
  rw [rd91 c.off i hlt] at t0 t1
  rw [rd91 c.off (i - 1) (by omega)] at u0
  generalize c.off[i] = x at r0 r1 r2 r3 t0 t1 ho
  generalize c.off[i - 1].f0 = y at u0 ho
  replace t0:=below_at HB.out t0
  replace t1:=below_at HB.out t1
  replace u0:=below_at HB.out u0
  have hz1:(i:Int) < (c.off.length:Int):=by omega
  have H1:=Aside0.mk (fun W=>outside_no x.f0 1 1048576 W r0 r1)
  have H2:=Aside0.mk (fun W=>outside_no x.f1 (-1048576) 1048576 W r2 r3)
  clear r0 r1 r2 r3
  go_upto_region 4 with fail
  have HX1:=Aside0.mk (blk_alloc HX.out (.cells #[.int .i64 x.f0,.int .i64 x.f1] 54))
  have HY1:=Aside0.mk (blk_new wr (.cells #[.int .i64 x.f0,.int .i64 x.f1] 54))
  have HB1:=Aside0.mk (below_alloc HB.out (.cells #[.int .i64 x.f0,.int .i64 x.f1] 54))
  have hb0:Below wr.heap.size wr (wr.alloc (.cells #[.int .i64 x.f0,.int .i64 x.f1] 54)):=below_alloc (Below.refl _ _) _
  replace u0:=below_at hb0 u0
  clear t0 t1 hb0
  generalize hgb:wr.heap.size = gb at HY1 ⊢
  generalize wr.alloc (.cells #[.int .i64 x.f0,.int .i64 x.f1] 54) = v0 at HX1 HY1 HB1 u0 ⊢
  have y0:v0.cell? ⟨gb,0,none⟩ = some (.int .i64 x.f0):=(blk_cell HY1.out 0).trans rfl
  go_wp2_with fail
  refine (H1.out _).mono ?_
  rintro e v1 ⟨rfl,hb1⟩
  have HX2:=Aside0.mk (blk_below HX1.out hb1)
  have HY2:=Aside0.mk (blk_below HY1.out hb1)
  have HB2:=Aside0.mk (below_step HB1.out hb1)
  replace u0:=below_at hb1 u0
  have y1:v1.cell? ⟨gb,1,none⟩ = some (.int .i64 x.f1):=(blk_cell HY2.out 1).trans rfl
  clear hb1 y0 HX1 HY1 HB1
  go_wp2_with fail
  refine (H2.out _).mono ?_
  rintro e v2 ⟨rfl,hb1⟩
  have HX3:=Aside0.mk (blk_below HX2.out hb1)
  have HY3:=Aside0.mk (blk_below HY2.out hb1)
  have HB3:=Aside0.mk (below_step HB2.out hb1)
  replace u0:=below_at hb1 u0
  have y0:v2.cell? ⟨gb,0,none⟩ = some (.int .i64 x.f0):=(blk_cell HY3.out 0).trans rfl
  have y2:v2.cell? ⟨w.heap.size,2,none⟩ = some (.slice (some ad) c.off.length c2):=(blk_cell HX3.out 2).trans rfl
  clear hb1 y1 HX2 HY2 HB2
  go_upto_region 6 with fail
  by_cases hi0:0 < i
  ·have hy:=ho hi0
   have k1:IntKind.i64.wrap ((i:Int) - 1) = ((i - 1:Nat):Int):=by rw [IntWalk.i64_in _ (by omega)];omega
   have k2:decide ((0:Int) < (i:Int)) = true:=by simp;omega
   have k3:decide (x.f0 ≤ y) = false:=by simp;omega
   have k4:((i - 1:Nat):Int) < (c.off.length:Int):=by omega
   have k5:(0:Int) ≤ ((i - 1:Nat):Int):=by omega
   refine start_ (n:=15) (S:=fun w'=>Below v2.heap.size v2 w') (ds:=[]) (bq 15 0) (by kernel_rfl) rfl rfl (Below.refl _ _).drew (fun hHeld=>?_)
   refine with_tabW ckoT.tab6 ckoT.bits6 (fun HT_ HW_=>?_)
   generalize v2.drew = wd at hHeld ⊢
   refine pu_ 0 (some 27) (bq 15 1) HT_ rfl rfl ?_
   refine pu_ 1 (some 28) (bq 15 3) HT_ rfl rfl ?_
   refine pu_ 2 (some 29) (bq 15 7) HT_ rfl rfl ?_
   refine pu_ 3 (some 30) (bq 15 15) HT_ rfl rfl ?_
   refine tk_ 4 (some 31) (bq 15 31) HT_ HW_ rfl rfl hHeld ?_ (by intro w' hS;replace y0:=below_at hS y0;go_simp;with_reducible rfl)
   refine pu_ 5 (some 32) (bq 15 63) HT_ rfl rfl ?_
   refine tk_ 6 (some 33) (bq 15 127) HT_ HW_ rfl rfl hHeld ?_ (by intro w' hS;replace y2:=below_at hS y2;go_simp;with_reducible rfl)
   refine pu_ 7 (some 34) (bq 15 255) HT_ rfl rfl ?_
   refine pu_ 8 (some 35) (bq 15 511) HT_ rfl rfl ?_
   refine pu_ 9 (some 36) (bq 15 1023) HT_ rfl rfl ?_
   refine pu_ 10 (some 37) (bq 15 2047) HT_ rfl rfl ?_
   refine tk_ 11 (some 38) (bq 15 4095) HT_ HW_ rfl rfl hHeld ?_ (by intro w' hS;replace u0:=below_at hS u0;go_simp;with_reducible rfl)
   refine pu_ 12 (some 39) (bq 15 8191) HT_ rfl rfl ?_
   refine pu_ 13 (some 40) (bq 15 16383) HT_ rfl rfl ?_
   refine pu_ 14 (some 26) (bq 15 32767) HT_ rfl rfl ?_
   refine done_ (done_of HT_.out (by kernel_rfl)) ?_
   have HX4:=Aside0.mk (blk_below HX3.out hHeld)
   have HB4:=Aside0.mk (below_step HB3.out hHeld)
   clear hHeld u0 y0 y2 HX3 HY3 HB3
   go_wp2_with fail
   go_roundg (c.off.length - (i + 1))
   case measure=>omega
   case rel=>exact ⟨i + 1,by omega,by omega,by first | rfl | go_num,HX4,HB4⟩
  ·have k2:decide ((0:Int) < (i:Int)) = false:=by simp;omega
   refine start_ (n:=15) (S:=fun w'=>Below v2.heap.size v2 w') (ds:=[]) (bq 15 0) (by kernel_rfl) rfl rfl (Below.refl _ _).drew (fun hHeld=>?_)
   refine with_tabW ckoT.tab6 ckoT.bits6 (fun HT_ HW_=>?_)
   generalize v2.drew = wd at hHeld ⊢
   refine pu_ 0 (some 27) (bq 15 1) HT_ rfl rfl ?_
   refine pu_ 1 (some 28) (bq 15 3) HT_ rfl rfl ?_
   refine pu_ 2 (some 29) (bq 15 7) HT_ rfl rfl ?_
   refine po_ 3 (some 30) (bq 15 15) HT_ rfl rfl ?_
   refine to_ 4 (some 31) (bq 15 31) HT_ HW_ rfl rfl hHeld ?_
   refine po_ 5 (some 32) (bq 15 63) HT_ rfl rfl ?_
   refine to_ 6 (some 33) (bq 15 127) HT_ HW_ rfl rfl hHeld ?_
   refine po_ 7 (some 34) (bq 15 255) HT_ rfl rfl ?_
   refine po_ 8 (some 35) (bq 15 511) HT_ rfl rfl ?_
   refine po_ 9 (some 36) (bq 15 1023) HT_ rfl rfl ?_
   refine po_ 10 (some 37) (bq 15 2047) HT_ rfl rfl ?_
   refine to_ 11 (some 38) (bq 15 4095) HT_ HW_ rfl rfl hHeld ?_
   refine po_ 12 (some 39) (bq 15 8191) HT_ rfl rfl ?_
   refine pu_ 13 (some 40) (bq 15 16383) HT_ rfl rfl ?_
   refine pu_ 14 (some 26) (bq 15 32767) HT_ rfl rfl ?_
   refine done_ (done_of HT_.out (by kernel_rfl)) ?_
   have HX4:=Aside0.mk (blk_below HX3.out hHeld)
   have HB4:=Aside0.mk (below_step HB3.out hHeld)
   clear hHeld u0 y0 y2 HX3 HY3 HB3
   go_wp2_with fail
   go_roundg (c.off.length - (i + 1))
   case measure=>omega
   case rel=>exact ⟨i + 1,by omega,by omega,by first | rfl | go_num,HX4,HB4⟩
 ·have hz1:decide (i < c.off.length) = false:=by simp;omega
  have hz2:decide ((i:Int) < (c.off.length:Int)) = false:=by simp;omega
  clear hlt
  have hn1:=HV.out.n1
  have y1:wr.cell? ⟨w.heap.size,1,none⟩ = some (.slice A1 c.sv.length c1):=(blk_cell HX.out 1).trans rfl
  clear hi hgi
  go_wp2_with fail
  clear y1
  go_loopg [6,7,8,45] c.sv.length (fun gg s6 s7 s8 s45 wr=>∃ i:Nat,i ≤ c.sv.length∧c.sv.length - i ≤ gg∧s45 = .int .i64 (i:Int)∧Aside0 (wr.heap[w.heap.size]? = some (.cells (c.cells ⟨A1,c1,A2,c2,A3,c3,A4,c4⟩) 36 (0,0)))∧Aside0 (Below w.heap.size w wr))
  case atStart=>exact ⟨0,Nat.zero_le _,by omega,rfl,HX,HB⟩
  case round=>
  clear HX HB
  obtain ⟨i,hi,hgi,rfl,HX,HB⟩:=hrel
  by_cases hlt:i < c.sv.length
  ·have hgap:=HV.out.gap i hlt
   obtain ⟨ad,A5,c5,e,t0,t1,t2,t3,t4,t5,l5,k5⟩:=at_T51 HR.out.r1 (i:Int) (by omega) (by omega)
   dsimp only at e
   subst e
   simp only [Int.toNat_natCast] at t0 t1 t2 t3 t4 t5
   rw [rd64 c.sv i hlt] at t0 t1 t2 t3 t4 t5 l5 k5
   replace t0:=below_at HB.out t0
   replace t1:=below_at HB.out t1
   replace t2:=below_at HB.out t2
   replace t3:=below_at HB.out t3
   replace t4:=below_at HB.out t4
   replace t5:=below_at HB.out t5
   generalize c.sv[i] = x at hgap t0 t1 t2 t3 t4 t5
   have hz1:(i:Int) < (c.sv.length:Int):=by omega
   clear l5 k5
   go_upto_region 12 with fail
   have HX1:=Aside0.mk (blk_alloc HX.out (.cells #[.string x.f0,.int .i64 x.f1,.int .i64 x.f2,.int .i64 x.f3,.int .i64 x.f4,.slice A5 x.f5.length c5] 51))
   have HY1:=Aside0.mk (blk_new wr (.cells #[.string x.f0,.int .i64 x.f1,.int .i64 x.f2,.int .i64 x.f3,.int .i64 x.f4,.slice A5 x.f5.length c5] 51))
   have HB1:=Aside0.mk (below_alloc HB.out (.cells #[.string x.f0,.int .i64 x.f1,.int .i64 x.f2,.int .i64 x.f3,.int .i64 x.f4,.slice A5 x.f5.length c5] 51))
   clear t0 t1 t2 t3 t4 t5
   generalize hgb:wr.heap.size = gb at HY1 ⊢
   generalize wr.alloc (.cells #[.string x.f0,.int .i64 x.f1,.int .i64 x.f2,.int .i64 x.f3,.int .i64 x.f4,.slice A5 x.f5.length c5] 51) = v0 at HX1 HY1 HB1 ⊢
   obtain ⟨q0,q1,q2,q3,q4,q5,q6,q7,q8,q9,q10,q11⟩:=cfg12 HX1.out
   have y1:v0.cell? ⟨gb,1,none⟩ = some (.int .i64 x.f1):=(blk_cell HY1.out 1).trans rfl
   clear HY1
   go_wp2_with fail
   refine (offset_calls c ⟨(some ad),c1,A2,c2,A3,c3,A4,c4⟩ x.f1 _ (HR.out.below HB1.out)).mono ?_
   rintro e v1 ⟨rfl,hb1⟩
   have HX2:=Aside0.mk (blk_below HX1.out hb1)
   have HB2:=Aside0.mk (below_step HB1.out hb1)
   rw [hgap]
   clear hb1 HX1 HB1 y1 q0 q1 q2 q3 q4 q5 q6 q7 q8 q9 q10 q11
   go_wp2_with fail
   go_roundg (c.sv.length - (i + 1))
   case measure=>omega
   case rel=>exact ⟨i + 1,by omega,by omega,by first | rfl | go_num,HX2,HB2⟩
  ·have hz1:decide (i < c.sv.length) = false:=by simp;omega
   have hz2:decide ((i:Int) < (c.sv.length:Int)) = false:=by simp;omega
   clear hlt
   go_wp2
   go_ret
   exact ⟨rfl,HB.out⟩
set_option maxHeartbeats 2000000 in
set_option maxRecDepth 100000 in
theorem ckS_walk (c:Cfg) (p:CfgAt) (w:World) (hR:CfgR w p c) (hv:Valid c):Calls Tryz.prog 74 #[c.val p] w fun e w'=>e = .returned (.int .i64 0)∧Below w.heap.size w w':=by
 obtain ⟨A1,c1,A2,c2,A3,c3,A4,c4⟩:=p
 have HR:=Aside0.mk hR
 have HV:=Aside0.mk hv
 have hn1:=hv.n1
 have HX0:=Aside0.mk (blk_new w (.cells (c.cells ⟨A1,c1,A2,c2,A3,c3,A4,c4⟩) 36))
 have HB0:=Aside0.mk (below_alloc (Below.refl w.heap.size w) (.cells (c.cells ⟨A1,c1,A2,c2,A3,c3,A4,c4⟩) 36))
 clear hR hv
 go_enter Tryz.func74,Tryz.ntmps74
 go_wp2_with fail
 go_loopg [3,4,13] c.sv.length (fun gg s3 s4 s13 wr=>∃ i:Nat,i ≤ c.sv.length∧c.sv.length - i ≤ gg∧s13 = .int .i64 (i:Int)∧Aside0 (wr.heap[w.heap.size]? = some (.cells (c.cells ⟨A1,c1,A2,c2,A3,c3,A4,c4⟩) 36 (0,0)))∧Aside0 (Below w.heap.size w wr))
 case atStart=>exact ⟨0,Nat.zero_le _,by omega,rfl,HX0,HB0⟩
 case round=>
 clear HX0 HB0
 obtain ⟨i,hi,hgi,rfl,HX,HB⟩:=hrel
 by_cases hlt:i < c.sv.length
 ·have hnm:=Aside0.mk (HV.out.sname i hlt)
  have hix:=HV.out.sidx i hlt
  obtain ⟨r0,r1,r2,r3,r4,r5,r6,r7⟩:=HV.out.srange i hlt
  have hsl:=HV.out.slen i hlt
  obtain ⟨ad,A5,c5,e,t0,t1,t2,t3,t4,t5,l5,k5⟩:=at_T51 HR.out.r1 (i:Int) (by omega) (by omega)
  dsimp only at e
  subst e
  simp only [Int.toNat_natCast] at t0 t1 t2 t3 t4 t5
  rw [rd64 c.sv i hlt] at t0 t1 t2 t3 t4 t5 l5 k5
  replace t0:=below_at HB.out t0
  replace t1:=below_at HB.out t1
  replace t2:=below_at HB.out t2
  replace t3:=below_at HB.out t3
  replace t4:=below_at HB.out t4
  replace t5:=below_at HB.out t5
  clear k5
  generalize c.sv[i] = x at hnm hix r0 r1 r2 r3 r4 r5 r6 r7 hsl t0 t1 t2 t3 t4 t5 l5
  have hz1:(i:Int) < (c.sv.length:Int):=by omega
  have H1:=Aside0.mk (fun W=>outside_no x.f1 1 1048576 W r0 r1)
  have H2:=Aside0.mk (fun W=>outside_no x.f2 0 1048576 W r2 r3)
  have H3:=Aside0.mk (fun W=>outside_no x.f3 0 1048576 W r4 r5)
  have H4:=Aside0.mk (fun W=>outside_no x.f4 0 1000000 W r6 r7)
  clear r0 r1 r2 r3 r4 r5 r6 r7 l5
  go_upto_region 4 with fail
  have HX1:=Aside0.mk (blk_alloc HX.out (.cells #[.string x.f0,.int .i64 x.f1,.int .i64 x.f2,.int .i64 x.f3,.int .i64 x.f4,.slice A5 x.f5.length c5] 51))
  have HY1:=Aside0.mk (blk_new wr (.cells #[.string x.f0,.int .i64 x.f1,.int .i64 x.f2,.int .i64 x.f3,.int .i64 x.f4,.slice A5 x.f5.length c5] 51))
  have HB1:=Aside0.mk (below_alloc HB.out (.cells #[.string x.f0,.int .i64 x.f1,.int .i64 x.f2,.int .i64 x.f3,.int .i64 x.f4,.slice A5 x.f5.length c5] 51))
  clear t0 t1 t2 t3 t4 t5
  generalize hgb:wr.heap.size = gb at HY1 ⊢
  generalize wr.alloc (.cells #[.string x.f0,.int .i64 x.f1,.int .i64 x.f2,.int .i64 x.f3,.int .i64 x.f4,.slice A5 x.f5.length c5] 51) = v0 at HX1 HY1 HB1 ⊢
  have y0:v0.cell? ⟨gb,0,none⟩ = some (.string x.f0):=(blk_cell HY1.out 0).trans rfl
  go_wp2_with fail
  refine (name_calls x.f0 hnm.out _).mono ?_
  rintro e v1 ⟨rfl,hb1⟩
  have HX2:=Aside0.mk (blk_below HX1.out hb1)
  have HY2:=Aside0.mk (blk_below HY1.out hb1)
  have HB2:=Aside0.mk (below_step HB1.out hb1)
  obtain ⟨q0,q1,q2,q3,q4,q5,q6,q7,q8,q9,q10,q11⟩:=cfg12 HX2.out
  replace y0:v1.cell? ⟨gb,0,none⟩ = some (.string x.f0):=(blk_cell HY2.out 0).trans rfl
  clear hb1 HX1 HY1 HB1
  go_wp2_with fail
  refine (index_calls c ⟨(some ad),c1,A2,c2,A3,c3,A4,c4⟩ x.f0 _ (HR.out.below HB2.out)).mono ?_
  rintro e v2 ⟨rfl,hb1⟩
  have z2:decide (svIdx c.sv x.f0 < (i:Int)) = false:=by simp;omega
  have HX3:=Aside0.mk (blk_below HX2.out hb1)
  have HY3:=Aside0.mk (blk_below HY2.out hb1)
  have HB3:=Aside0.mk (below_step HB2.out hb1)
  clear hb1 HX2 HY2 HB2 y0 q0 q1 q2 q3 q4 q5 q6 q7 q8 q9 q10 q11 hix
  have y1:v2.cell? ⟨gb,1,none⟩ = some (.int .i64 x.f1):=(blk_cell HY3.out 1).trans rfl
  generalize svIdx c.sv x.f0 = si at z2 ⊢
  go_wp2_with fail
  refine (H1.out _).mono ?_
  rintro e v3 ⟨rfl,hb1⟩
  have HX4:=Aside0.mk (blk_below HX3.out hb1)
  have HY4:=Aside0.mk (blk_below HY3.out hb1)
  have HB4:=Aside0.mk (below_step HB3.out hb1)
  have y2:v3.cell? ⟨gb,2,none⟩ = some (.int .i64 x.f2):=(blk_cell HY4.out 2).trans rfl
  clear hb1 y1 HX3 HY3 HB3
  go_wp2_with fail
  refine (H2.out _).mono ?_
  rintro e v4 ⟨rfl,hb1⟩
  have HX5:=Aside0.mk (blk_below HX4.out hb1)
  have HY5:=Aside0.mk (blk_below HY4.out hb1)
  have HB5:=Aside0.mk (below_step HB4.out hb1)
  have y3:v4.cell? ⟨gb,3,none⟩ = some (.int .i64 x.f3):=(blk_cell HY5.out 3).trans rfl
  clear hb1 y2 HX4 HY4 HB4
  go_wp2_with fail
  refine (H3.out _).mono ?_
  rintro e v5 ⟨rfl,hb1⟩
  have HX6:=Aside0.mk (blk_below HX5.out hb1)
  have HY6:=Aside0.mk (blk_below HY5.out hb1)
  have HB6:=Aside0.mk (below_step HB5.out hb1)
  have y4:v5.cell? ⟨gb,4,none⟩ = some (.int .i64 x.f4):=(blk_cell HY6.out 4).trans rfl
  clear hb1 y3 HX5 HY5 HB5
  go_wp2_with fail
  refine (H4.out _).mono ?_
  rintro e v6 ⟨rfl,hb1⟩
  have HX7:=Aside0.mk (blk_below HX6.out hb1)
  have HY7:=Aside0.mk (blk_below HY6.out hb1)
  have HB7:=Aside0.mk (below_step HB6.out hb1)
  have y5:v6.cell? ⟨gb,5,none⟩ = some (.slice A5 x.f5.length c5):=(blk_cell HY7.out 5).trans rfl
  clear hb1 y4 HX6 HY6 HB6
  have z5:decide ((8:Int) < (x.f5.length:Int)) = false:=by simp;omega
  go_wp2_with fail
  go_roundg (c.sv.length - (i + 1))
  case measure=>omega
  case rel=>exact ⟨i + 1,by omega,by omega,by first | rfl | go_num,HX7,HB7⟩
 ·have hz1:decide (i < c.sv.length) = false:=by simp;omega
  have hz2:decide ((i:Int) < (c.sv.length:Int)) = false:=by simp;omega
  clear hlt hi hgi
  have y1:wr.cell? ⟨w.heap.size,1,none⟩ = some (.slice A1 c.sv.length c1):=(blk_cell HX.out 1).trans rfl
  go_wp2_with fail
  clear y1
  go_loopg [5,6,8,9,58] c.sv.length (fun gg s5 s6 s8 s9 s58 wr=>∃ i:Nat,i ≤ c.sv.length∧c.sv.length - i ≤ gg∧s58 = .int .i64 (i:Int)∧Aside0 (wr.heap[w.heap.size]? = some (.cells (c.cells ⟨A1,c1,A2,c2,A3,c3,A4,c4⟩) 36 (0,0)))∧Aside0 (Below w.heap.size w wr))
  case atStart=>exact ⟨0,Nat.zero_le _,by omega,rfl,HX,HB⟩
  case round=>
  clear HX HB hz1 hz2
  obtain ⟨i,hi,hgi,rfl,HX,HB⟩:=hrel
  by_cases hlt:i < c.sv.length
  ·have hsl:=HV.out.slen i hlt
   have hcl:=Aside0.mk (HV.out.scall i hlt)
   obtain ⟨ad,A5,c5,e,t0,t1,t2,t3,t4,t5,l5,k5⟩:=at_T51 HR.out.r1 (i:Int) (by omega) (by omega)
   dsimp only at e
   subst e
   simp only [Int.toNat_natCast] at t0 t1 t2 t3 t4 t5
   rw [rd64 c.sv i hlt] at t0 t1 t2 t3 t4 t5 l5 k5
   replace t0:=below_at HB.out t0
   replace t1:=below_at HB.out t1
   replace t2:=below_at HB.out t2
   replace t3:=below_at HB.out t3
   replace t4:=below_at HB.out t4
   replace t5:=below_at HB.out t5
   have K5:=Aside0.mk (Kd.C_below k5 HB.out)
   clear k5
   generalize c.sv[i] = x at hcl hsl t0 t1 t2 t3 t4 t5 l5 K5
   have hz1:(i:Int) < (c.sv.length:Int):=by omega
   go_upto_region 16 with fail
   replace K5:=Aside0.mk (Kd.C_below K5.out (below_alloc (Below.refl _ _) (.cells #[.string x.f0,.int .i64 x.f1,.int .i64 x.f2,.int .i64 x.f3,.int .i64 x.f4,.slice A5 x.f5.length c5] 51)))
   have HX1:=Aside0.mk (blk_alloc HX.out (.cells #[.string x.f0,.int .i64 x.f1,.int .i64 x.f2,.int .i64 x.f3,.int .i64 x.f4,.slice A5 x.f5.length c5] 51))
   have HY1:=Aside0.mk (blk_new wr (.cells #[.string x.f0,.int .i64 x.f1,.int .i64 x.f2,.int .i64 x.f3,.int .i64 x.f4,.slice A5 x.f5.length c5] 51))
   have HB1:=Aside0.mk (below_alloc HB.out (.cells #[.string x.f0,.int .i64 x.f1,.int .i64 x.f2,.int .i64 x.f3,.int .i64 x.f4,.slice A5 x.f5.length c5] 51))
   clear t0 t1 t2 t3 t4 t5
   generalize hgb:wr.heap.size = gb at HY1 ⊢
   generalize wr.alloc (.cells #[.string x.f0,.int .i64 x.f1,.int .i64 x.f2,.int .i64 x.f3,.int .i64 x.f4,.slice A5 x.f5.length c5] 51) = v0 at HX1 HY1 HB1 K5 ⊢
   have y5:v0.cell? ⟨gb,5,none⟩ = some (.slice A5 x.f5.length c5):=(blk_cell HY1.out 5).trans rfl
   clear HY1
   go_wp2_with fail
   clear y5
   go_loopg [8,9,66] x.f5.length (fun gg s8 s9 s66 wr=>∃ j:Nat,j ≤ x.f5.length∧x.f5.length - j ≤ gg∧s66 = .int .i64 (j:Int)∧Aside0 (wr.heap[w.heap.size]? = some (.cells (c.cells ⟨(some ad),c1,A2,c2,A3,c3,A4,c4⟩) 36 (0,0)))∧Aside0 (Below w.heap.size w wr)∧Aside0 (Kd.string.C wr A5 x.f5.length x.f5))
   case atStart=>exact ⟨0,Nat.zero_le _,by omega,rfl,HX1,HB1,K5⟩
   case round=>
   clear HX1 HB1 K5 HX HB
   obtain ⟨j,hj,hgj,rfl,HX,HB,K5⟩:=hrel
   by_cases hlj:j < x.f5.length
   ·obtain ⟨ad5,e5,u0⟩:=Kd.at_string K5.out (j:Int) (by omega) (by omega)
    subst e5
    simp only [Int.toNat_natCast] at u0
    have hlt2:=hcl.out (rdOf ByteArray.empty x.f5 (j:Int)) (by
     unfold rdOf
     rw [Int.toNat_natCast,List.getD_eq_getElem?_getD,List.getElem?_eq_getElem hlj]
     exact List.getElem_mem _)
    generalize rdOf ByteArray.empty x.f5 (j:Int) = nm at u0 hlt2
    have hz3:(j:Int) < (x.f5.length:Int):=by omega
    go_upto_region 19 with fail
    clear u0
    obtain ⟨q0,q1,q2,q3,q4,q5,q6,q7,q8,q9,q10,q11⟩:=cfg12 HX.out
    go_wp2_with fail
    refine (index_calls c ⟨(some ad),c1,A2,c2,A3,c3,A4,c4⟩ nm _ (HR.out.below HB.out)).mono ?_
    rintro e v2 ⟨rfl,hb1⟩
    have HX3:=Aside0.mk (blk_below HX.out hb1)
    have HB3:=Aside0.mk (below_step HB.out hb1)
    have K53:=Aside0.mk (Kd.C_below K5.out hb1)
    clear hb1 HX HB K5 q0 q1 q2 q3 q4 q5 q6 q7 q8 q9 q10 q11
    have z2:decide (svIdx c.sv nm < 0) = false:=by simp;omega
    have z3:decide (svIdx c.sv nm ≤ (i:Int)) = false:=by simp;omega
    clear hlt2
    generalize svIdx c.sv nm = si at z2 z3 ⊢
    go_wp2_with fail
    go_roundg (x.f5.length - (j + 1))
    case measure=>omega
    case rel=>exact ⟨j + 1,by omega,by omega,by first | rfl | go_num,HX3,HB3,K53⟩
   ·have hz3:decide (j < x.f5.length) = false:=by simp;omega
    have hz4:decide ((j:Int) < (x.f5.length:Int)) = false:=by simp;omega
    clear hlj
    go_wp2_with fail
    go_roundg (c.sv.length - (i + 1))
    case measure=>omega
    case rel=>exact ⟨i + 1,by omega,by omega,by first | rfl | go_num,HX,HB⟩
  ·have hz1:decide (i < c.sv.length) = false:=by simp;omega
   have hz2:decide ((i:Int) < (c.sv.length:Int)) = false:=by simp;omega
   clear hlt
   go_wp2
   go_ret
   exact ⟨rfl,HB.out⟩
noncomputable def ckAll (k:Nat) (c:Cfg):Option Int:=open Classical in if Valid c then some 0 else none
theorem ckAll_ok {c:Cfg} (hv:Valid c) (k:Nat):ckAll k c = some 0:=if_pos hv
set_option maxHeartbeats 4000000 in
set_option maxRecDepth 100000 in
theorem check_calls (k:Nat) (c:Cfg) (p:CfgAt) (r:Int) (w:World) (hR:CfgR w p c) (h:ckAll k c = some r):
  Calls Tryz.prog 43 #[c.val p] w fun e w'=>e = .returned (.int .i64 r)∧Below w.heap.size w w':=by
 have HR:=Aside0.mk hR
 clear hR
 unfold ckAll at h
 split at h
 case isFalse=>cases h
 case isTrue hv=>
 obtain rfl:=Option.some.inj h
 have b0:=hv.seed0
 have b1:=hv.seed1
 have b2:=hv.n0
 have b3:=hv.n1
 have b4:=hv.nf
 have k1:decide (c.seed < 0 ∨ 1048576 < c.seed) = false:=by simp;omega
 have k2:((c.sv.length:Int) == 0) = false:=by simp;intro h;simp [h] at b2
 have k3:decide ((16:Int) < (c.sv.length:Int)) = false:=by simp;omega
 have k4:decide ((16:Int) < (c.fl.length:Int)) = false:=by simp;omega
 have HV:=Aside0.mk hv
 clear h hv b0 b1 b2 b3 b4
 go_enter Tryz.func43,Tryz.ntmps43
 go_wp2_with (go_at_call 73;refine (outside_calls _ _ _ _).mono ?_;rintro e w1 ⟨rfl,⟨nd,rfl⟩⟩)
 have x0:∀ (a b c d e:Value) (W:World),(Instr.index 149 (.agg #[a,b,c,d,e]) (.int .i64 0)).run Tryz.prog W = .ok a W:=fun _ _ _ _ _ _=>by kernel_rfl
 have x1:∀ (a b c d e:Value) (W:World),(Instr.index 149 (.agg #[a,b,c,d,e]) (.int .i64 1)).run Tryz.prog W = .ok b W:=fun _ _ _ _ _ _=>by kernel_rfl
 have x2:∀ (a b c d e:Value) (W:World),(Instr.index 149 (.agg #[a,b,c,d,e]) (.int .i64 2)).run Tryz.prog W = .ok c W:=fun _ _ _ _ _ _=>by kernel_rfl
 have x3:∀ (a b c d e:Value) (W:World),(Instr.index 149 (.agg #[a,b,c,d,e]) (.int .i64 3)).run Tryz.prog W = .ok d W:=fun _ _ _ _ _ _=>by kernel_rfl
 have x4:∀ (a b c d e:Value) (W:World),(Instr.index 149 (.agg #[a,b,c,d,e]) (.int .i64 4)).run Tryz.prog W = .ok e W:=fun _ _ _ _ _ _=>by kernel_rfl
 go_loopg [38] 5 (fun gg s38 wr=>∃ (i:Nat),i ≤ 5∧5 - i ≤ gg∧s38 = .int .i64 i∧Aside0 (wr.heap[w.heap.size]? = some (.cells (c.cells p) 36 (0,0)))∧Aside0 (Below w.heap.size w wr))
 case atStart=>
  refine ⟨0,by omega,by omega,by rfl,⟨?_⟩,⟨?_⟩⟩
  ·repeat (first | (with_reducible exact blk_new w _) | (with_reducible refine blk_drewN ?_ _) | (with_reducible refine blk_drew ?_) | (with_reducible refine blk_alloc ?_ _))
  ·repeat (first | exact Below.refl _ _ | apply below_alloc | apply pw_below_drewN)
 case round=>
  obtain ⟨i,hi,hgi,rfl,BK,HB⟩:=hrel
  by_cases hlt:i < 5
  ·match i,hlt with
   | 0,_=>
    go_wp2_with fail
    refine (ckS_walk c p _ (HR.out.below HB.out) HV.out).mono ?_
    rintro e w1 ⟨rfl,hb1⟩
    go_wp2_with fail
    go_roundg (5 - (0 + 1))
    case measure=>omega
    case rel=>exact ⟨0 + 1,by omega,by omega,by rfl,⟨blk_below BK.out hb1⟩,⟨below_step HB.out hb1⟩⟩
   | 1,_=>
    go_wp2_with fail
    refine (ckO_walk c p _ (HR.out.below HB.out) HV.out).mono ?_
    rintro e w1 ⟨rfl,hb1⟩
    go_wp2_with fail
    go_roundg (5 - (1 + 1))
    case measure=>omega
    case rel=>exact ⟨1 + 1,by omega,by omega,by rfl,⟨blk_below BK.out hb1⟩,⟨below_step HB.out hb1⟩⟩
   | 2,_=>
    have HC:=Aside0.mk (ckD_calls c p w.heap.size wr (HR.out.below HB.out) BK.out)
    rw [HV.out.ch] at HC
    go_wp2_with fail
    refine HC.out.mono ?_
    rintro e w1 ⟨rfl,hb1⟩
    go_wp2_with fail
    go_roundg (5 - (2 + 1))
    case measure=>omega
    case rel=>exact ⟨2 + 1,by omega,by omega,by rfl,⟨blk_below BK.out hb1⟩,⟨below_step HB.out hb1⟩⟩
   | 3,_=>
    go_wp2_with fail
    refine (ckF_walk c p _ (HR.out.below HB.out) HV.out).mono ?_
    rintro e w1 ⟨rfl,hb1⟩
    go_wp2_with fail
    go_roundg (5 - (3 + 1))
    case measure=>omega
    case rel=>exact ⟨3 + 1,by omega,by omega,by rfl,⟨blk_below BK.out hb1⟩,⟨below_step HB.out hb1⟩⟩
   | 4,_=>
    go_wp2_with fail
    refine (ckR_walk c p _ (HR.out.below HB.out) HV.out).mono ?_
    rintro e w1 ⟨rfl,hb1⟩
    go_wp2_with fail
    go_roundg (5 - (4 + 1))
    case measure=>omega
    case rel=>exact ⟨4 + 1,by omega,by omega,by rfl,⟨blk_below BK.out hb1⟩,⟨below_step HB.out hb1⟩⟩
  ·obtain rfl:i = 5:=by omega
   go_wp2_with fail
   go_ret
   exact ⟨by rfl,HB.out⟩
end Go.Proofs.YtdadnapfecmmdaaGreat.P
