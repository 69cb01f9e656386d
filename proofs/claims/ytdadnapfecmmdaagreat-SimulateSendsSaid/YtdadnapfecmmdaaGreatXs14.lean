/- Own texts of a proof about layer 55's simulate (merged): Md. -/
import Derived.Test.YtdadnapfecmmdaaGreatXs13
import Derived.Test.YtdadnapfecmmdaaGreatXs2
namespace Go.Proofs.YtdadnapfecmmdaaGreat.P
set_option linter.unusedVariables false
set_option linter.unusedSimpArgs false
open Go.RowKit Go.Proofs.YtdadnapfecmmdaaGreatW.PrintWords Go.Proofs.YtdadnapfecmmdaaGreatW.PrintLast Go.Proofs.YtdadnapfecmmdaaGreatW.PrintMore
open Go.Proofs.YtdadnapfecmmdaaGreat.Hm
def mkT.T7:Bool × List (List Nat × List Nat):=(true,[([],[]),([0],[0]),([],[]),([2],[2]),([3],[3]),([4],[4]),([],[]),([6],[6]),([7],[7]),([8],[8]),([],[]),([5,9,10],[5,9,10]),([],[]),([12],[12]),([13],[13]),([11,14],[11,14]),([1,15],[1,15]),([],[]),([17],[17]),([16,11,0,1,2,3,4,5,6,7,8,9,10,11,12,13,14,15,16],[16]),([18,19,0,1,2,3,4,5,6,7,8,9,10,11,12,13,14,15,16,17,18,19],[18])])
def mkT.B7:List Nat:=[0,1,0,4,12,28,0,64,192,448,0,2044,0,4096,12288,32764,65535,0,131072,131071,1048575]
theorem mkT.tab7:rtab .any (opsOf Tryz.f41 7) = mkT.T7:=by kernel_rfl
theorem mkT.bits7:waitsOk mkT.T7.2 mkT.B7 = true:=by kernel_rfl
def mkT.T13:Bool × List (List Nat × List Nat):=(true,[([],[]),([],[]),([1],[1]),([0,2],[0,2]),([],[]),([],[]),([5],[5]),([4,6],[4,6]),([3,0,1,2,3],[0,3]),([7,8,0,1,2,3,4,5,6,7,8],[4,7])])
def mkT.B13:List Nat:=[0,0,2,7,0,0,32,112,15,511]
theorem mkT.tab13:rtab .any (opsOf Tryz.f41 13) = mkT.T13:=by kernel_rfl
theorem mkT.bits13:waitsOk mkT.T13.2 mkT.B13 = true:=by kernel_rfl
def mtail7:{ c:Code // tailFrom 7 (Tryz.f41.body.getD .skip) = some c }:=⟨_,by rfl⟩
set_option maxHeartbeats 8000000 in
set_option maxRecDepth 100000 in
theorem mserve_tail7 (w0:World) (gm gs:Nat) (c:Cfg) (A1:Option Addr) (c1:Nat) (A2:Option Addr) (c2:Nat) (A3:Option Addr) (c3:Nat) (A4:Option Addr) (c4:Nat) (t:Int) (s:S51) (A5:Option Addr) (c5:Nat) (slot:Int) (sm:List (ByteArray × SvV)) (n:Nat) (ver:ByteArray) (parent x wk fk:Int) (l:List Sp) (r1:Int) (r2:Bool) (l':List Sp) (W W0:World) (v:Value) (z1:Int) (z2:Bool) (L2:List Sp)
  (hl:l.length < 1000) (hx0:0 ≤ x) (hx1:x ≤ 1152921504606846976) (hwk0:0 ≤ wk) (hwk1:wk ≤ 1099511627776) (hz1:0 ≤ z1) (hz2:z1 ≤ 1152921504606846976) (hz3:l.length < L2.length) (hd:0 ≤ c.delay) (hd1:c.delay ≤ 1048576) (hn5:s.f5.length ≤ 9223372036854775807) (hgm:w0.heap.size ≤ gm) (hgs:gs ≠ gm) (hw0:0 ≤ s.f2) (hw1:s.f2 ≤ 1048576) (hj0:0 ≤ s.f3) (hj1:s.f3 ≤ 1048576)
  (HA:Aside0 (z1 + wk - wk / 2 = r1∧z2 = r2∧setEnd L2 l.length (z1 + wk - wk / 2) z2 = l'))
  (HF:Aside0 (faultsV s.f0 ver slot c.fl (s.f2 + rollV c.seed t ((l.length:Int) + 1) 1 % (s.f3 + 1)) s.f4 = (wk,fk)))
  (HC:Aside0 (callsV c.seed c.delay t ((l.length:Int) + 1) s ver (serveV c slot t sm n) s.f5 (x + wk / 2) (decide (rollV c.seed t ((l.length:Int) + 1) 4 % 1000000 < fk)) (l ++ [⟨t,(l.length:Int) + 1,parent,0,s.f1,3,s.f0,ver,strServe,x,0,false⟩]) = some (z1,z2,L2)))
  (HS5:Aside0 (∀ W',Below w0.heap.size w0 W'→Kd.C Kd.string W' A5 s.f5.length s.f5)) (HCF:Aside0 (∀ W',Below w0.heap.size w0 W'→CfgR W' ⟨A1,c1,A2,c2,A3,c3,A4,c4⟩ c)) (HM:Aside0 (MkAt W0 gm w0.heap.size c ⟨A1,c1,A2,c2,A3,c3,A4,c4⟩ t l v)) (HK:Aside0 (KeepM W v W0 v gm)) (HB:Aside0 (Below w0.heap.size w0 W0)) (HG:Aside0 (W0.heap[gs]? = some (.cells (svCells s A5 c5) 51 (0,0))))
  (IH:Aside0 (∀ (i:Nat) (nm:ByteArray) (hi:i < s.f5.length) (hnm:s.f5[i] = nm) (parent x:Int) (l:List Sp) (r1:Int) (r2:Bool) (l':List Sp) (W:World) (v:Value),serveV c slot t sm n nm parent x l = some (r1,r2,l')→MkAt W gm w0.heap.size c ⟨A1,c1,A2,c2,A3,c3,A4,c4⟩ t l v→Below w0.heap.size w0 W→Calls Tryz.prog 41 #[.pointer (some ⟨gm,0,none⟩),.int .i64 (svIdx c.sv nm),.int .i64 parent,.int .i64 x] W fun e w'=>e = .returned (.tuple #[.int .i64 r1,.bool r2])∧∃ v',MkAt w' gm w0.heap.size c ⟨A1,c1,A2,c2,A3,c3,A4,c4⟩ t l' v'∧KeepM W v w' v' gm∧Below w0.heap.size w0 w')) {q1 q4 q5 q6 q7 q8 q9 q14 q15 q16 q17 q18 q19 q20 q21 q22 q23 q24 q25 q26 q27 q28 q29 q30 q31 q32 q33 q34 q35 q36 q37 q38 q39 q40 q41 q42 q43 q44 q45 q46 q47 q48 q49 q50 q51 q52 q53 q54 q55 q56 q57 q58 q59 q60 q61 q62 q63 q64 q65 q66 q67 q68 q69 q70 q71 q72 q73 q74 q75 q76 q77 q78 q79 q80 q81 q82 q83 q84 q85 q86 q87 q88 q89 q90 q91 q92 q93 q94 q95 q96 q97 q98 q99 q100 q101 q102 q103 q104 q105 q106 q107 q108 q109 q110 q111 q112 q113 q114 q115 q116 q117 q118 q119 q120 q121 q122 q123 q124 q125 q126 q127 q128 q129 q130 q131 q132 q133 q134 q135 q136 q137 q138 q139 q140 q141 q142 q143 q144 q145 q146 q147 q148 q149 q150 q151 q152 q153 q154 q155 q156 q157 q158 q159 q160 q161 q162 q163 q164 q165 q166 q167 q168 q169 q170 q171 q172 q173 q174 q175 q176 q177 q178 q179 q180 q181 q182 q183 q184 q185 q186 q187 q188 q189 q190 q191 q192 q193 q194 q195 q196 q197 q198 q199 q200 q201 q202 q203 q204 q205 q206 q207 q208 q209 q210 q211 q212 q213 q214 q215 q216 q217 q218 q219 q220 q221 q222 q223 q224 q225 q226 q227 q228 q229 q230 q231 q232 q233 q234 q235 q236 q237 q238 q239 q240 q241 q242 q243 q244 q245 q246 q247 q248 q249 q250 q251 q252 q253 q254 q255 q256 q257 q258 q259 q260 q261 q262 q263 q264 q265 q266 q267 q268 q269 q270 q271 q272 q273 q274 q275 q276 q277 q278 q279 q280 q281 q282 q283 q284 q285 q286 q287 q288 q289 q290 q291 q292 q293 q294 q295 q296 q297 q298 q299 q300 q301 q302 q303 q304 q305 q306 q307 q308 q309 q310 q311 q312 q313 q314 q315 q316 q317 q318 q319 q320 q321:Value}:
  Code.wp Tryz.prog mtail7.1 (bodyPost Tryz.prog Tryz.f41 (fun e w'=>e = .returned (.tuple #[.int .i64 r1,.bool r2])∧∃ v',MkAt w' gm w0.heap.size c ⟨A1,c1,A2,c2,A3,c3,A4,c4⟩ t l' v'∧KeepM W v w' v' gm∧Below w0.heap.size w0 w')) { tmps:=List.toArray ((.pointer (some ⟨gm,0,none⟩))::q1::(.int .i64 parent)::(.int .i64 x)::q4::q5::q6::q7::q8::q9::(.pointer (some ⟨gs,0,none⟩))::(.int .i64 slot)::(.int .i64 ((l.length:Int) + 1))::(.string ver)::q14::q15::q16::q17::q18::q19::q20::q21::q22::q23::q24::q25::q26::q27::q28::q29::q30::q31::q32::q33::q34::q35::q36::q37::q38::q39::q40::q41::q42::q43::q44::q45::q46::q47::q48::q49::q50::q51::q52::q53::q54::q55::q56::q57::q58::q59::q60::q61::q62::q63::q64::q65::q66::q67::q68::q69::q70::q71::q72::q73::q74::q75::q76::q77::q78::q79::q80::q81::q82::q83::q84::q85::q86::q87::q88::q89::q90::q91::q92::q93::q94::q95::q96::q97::q98::q99::q100::q101::q102::q103::q104::q105::q106::q107::q108::q109::q110::q111::q112::q113::q114::q115::q116::q117::q118::q119::q120::q121::q122::q123::q124::q125::q126::q127::q128::q129::q130::q131::q132::q133::q134::q135::q136::q137::q138::q139::q140::q141::q142::q143::q144::q145::q146::q147::q148::q149::q150::q151::q152::q153::q154::q155::q156::q157::q158::q159::q160::q161::q162::q163::q164::q165::q166::q167::q168::q169::q170::q171::q172::q173::q174::q175::q176::q177::q178::q179::q180::q181::q182::q183::q184::q185::q186::q187::q188::q189::q190::q191::q192::q193::q194::q195::q196::q197::q198::q199::q200::q201::q202::q203::q204::q205::q206::q207::q208::q209::q210::q211::q212::q213::q214::q215::q216::q217::q218::q219::q220::q221::q222::q223::q224::q225::q226::q227::q228::q229::q230::q231::q232::q233::q234::q235::q236::q237::q238::q239::q240::q241::q242::q243::q244::q245::q246::q247::q248::q249::q250::q251::q252::q253::q254::q255::q256::q257::q258::q259::q260::q261::q262::q263::q264::q265::q266::q267::q268::q269::q270::q271::q272::q273::q274::q275::q276::q277::q278::q279::q280::q281::q282::q283::q284::q285::q286::q287::q288::q289::q290::q291::q292::q293::q294::q295::q296::q297::q298::q299::q300::q301::q302::q303::q304::q305::q306::q307::q308::q309::q310::q311::q312::q313::q314::q315::q316::q317::q318::q319::q320::q321::[]),defers:=[] } W0:=by
 dsimp only [mtail7]
 have hflen:c.fl.length ≤ 9223372036854775807:=(HCF.out _ HB.out).r4.2.1
 go_upto_region 7 with fail
 obtain ⟨WC,hWC⟩:∃ W:World,W = W0:=⟨_,rfl⟩
 subst hWC
 go_cut [16,17] (fun s16 s17 wz=>s16 = .int .i64 (s.f2 + rollV c.seed t ((l.length:Int) + 1) 1 % (s.f3 + 1))∧s17 = .int .i64 s.f4∧Aside0 (Below WC.heap.size WC wz))
 case first=>
  have m0:WC.cell? ⟨gm,0,none⟩ = some (.int .i64 c.seed):=(blk_cell HM.out.blk 0).trans rfl
  have m1:WC.cell? ⟨gm,1,none⟩ = some (.slice A1 c.sv.length c1):=(blk_cell HM.out.blk 1).trans rfl
  have m2:WC.cell? ⟨gm,2,none⟩ = some (.slice A2 c.off.length c2):=(blk_cell HM.out.blk 2).trans rfl
  have m3:WC.cell? ⟨gm,3,none⟩ = some (.slice A3 c.ch.length c3):=(blk_cell HM.out.blk 3).trans rfl
  have m4:WC.cell? ⟨gm,4,none⟩ = some (.slice A4 c.fl.length c4):=(blk_cell HM.out.blk 4).trans rfl
  have m5:WC.cell? ⟨gm,5,none⟩ = some (.int .i64 c.sfrom):=(blk_cell HM.out.blk 5).trans rfl
  have m6:WC.cell? ⟨gm,6,none⟩ = some (.int .i64 c.sto):=(blk_cell HM.out.blk 6).trans rfl
  have m7:WC.cell? ⟨gm,7,none⟩ = some (.int .i64 c.per):=(blk_cell HM.out.blk 7).trans rfl
  have m8:WC.cell? ⟨gm,8,none⟩ = some (.int .i64 c.delay):=(blk_cell HM.out.blk 8).trans rfl
  have m9:WC.cell? ⟨gm,9,none⟩ = some (.int .i64 c.chunk):=(blk_cell HM.out.blk 9).trans rfl
  have m10:WC.cell? ⟨gm,10,none⟩ = some (.int .i64 c.loss):=(blk_cell HM.out.blk 10).trans rfl
  have m11:WC.cell? ⟨gm,11,none⟩ = some (.int .i64 c.rep):=(blk_cell HM.out.blk 11).trans rfl
  have m12:WC.cell? ⟨gm,12,none⟩ = some (.int .i64 t):=(blk_cell HM.out.blk 12).trans rfl
  have g2:WC.cell? ⟨gs,2,none⟩ = some (.int .i64 s.f2):=(blk_cell HG.out 2).trans rfl
  have g3:WC.cell? ⟨gs,3,none⟩ = some (.int .i64 s.f3):=(blk_cell HG.out 3).trans rfl
  have g4:WC.cell? ⟨gs,4,none⟩ = some (.int .i64 s.f4):=(blk_cell HG.out 4).trans rfl
  have s1:IntKind.i64.wrap (s.f3 + 1) = s.f3 + 1:=IntWalk.i64_in _ (by omega)
  have s2:¬ (s.f3 + 1 = 0):=by omega
  have s3:(rollV c.seed t ((l.length:Int) + 1) 1).tmod (s.f3 + 1) = rollV c.seed t ((l.length:Int) + 1) 1 % (s.f3 + 1):=roll_tmod _ _ _ _ _
  have s4:IntKind.i64.wrap (s.f2 + rollV c.seed t ((l.length:Int) + 1) 1 % (s.f3 + 1)) = s.f2 + rollV c.seed t ((l.length:Int) + 1) 1 % (s.f3 + 1):=emod_wrap _ _ _ hj0 hj1 hw0 (by omega)
  refine start_ (n:=21) (S:=fun w'=>Below WC.heap.size WC w') (ds:=[]) (bz 21 0) (by kernel_rfl) rfl rfl (Below.refl _ _).drew (fun hHeld=>?_)
  refine with_tabW mkT.tab7 mkT.bits7 (fun HT_ HW_=>?_)
  generalize WC.drew = wd at hHeld ⊢
  refine pu_ 0 (some 61) (bz 21 1) HT_ rfl rfl ?_
  refine tk_ 1 (some 62) (bz 21 3) HT_ HW_ rfl rfl hHeld ?_ (by intro w' hS;replace g2:=below_at hS g2;go_simp;with_reducible rfl)
  refine pu_ 2 (some 63) (bz 21 7) HT_ rfl rfl ?_
  refine pu_ 3 (some 64) (bz 21 15) HT_ rfl rfl ?_
  refine pu_ 4 (some 65) (bz 21 31) HT_ rfl rfl ?_
  refine tk_ 5 (some 66) (bz 21 63) HT_ HW_ rfl rfl hHeld ?_ (by intro w' hS;replace m0:=below_at hS m0;replace m1:=below_at hS m1;replace m2:=below_at hS m2;replace m3:=below_at hS m3;replace m4:=below_at hS m4;replace m5:=below_at hS m5;replace m6:=below_at hS m6;replace m7:=below_at hS m7;replace m8:=below_at hS m8;replace m9:=below_at hS m9;replace m10:=below_at hS m10;replace m11:=below_at hS m11;go_simp;with_reducible rfl)
  refine pu_ 6 (some 67) (bz 21 127) HT_ rfl rfl ?_
  refine pu_ 7 (some 68) (bz 21 255) HT_ rfl rfl ?_
  refine pu_ 8 (some 69) (bz 21 511) HT_ rfl rfl ?_
  refine tk_ 9 (some 70) (bz 21 1023) HT_ HW_ rfl rfl hHeld ?_ (by intro w' hS;replace m12:=below_at hS m12;go_simp;with_reducible rfl)
  refine pu_ 10 (some 71) (bz 21 2047) HT_ rfl rfl ?_
  refine pu_ 12 (some 73) (bz 21 6143) HT_ rfl rfl ?_
  refine tk_ 13 (some 74) (bz 21 14335) HT_ HW_ rfl rfl hHeld ?_ (by intro w' hS;replace g3:=below_at hS g3;go_simp;with_reducible rfl)
  refine pu_ 14 (some 75) (bz 21 30719) HT_ rfl rfl ?_
  refine pu_ 17 (some 78) (bz 21 161791) HT_ rfl rfl ?_
  refine tk_ 18 (some 79) (bz 21 423935) HT_ HW_ rfl rfl hHeld ?_ (by intro w' hS;replace g4:=below_at hS g4;go_simp;with_reducible rfl)
  refine one_ (i:=11) (N:=some 72) (bz 21 425983) rfl rfl (one_of HT_.out (by kernel_rfl)) (by decide) (fun K hK=>?_)
  refine goes_ Tryz.func27 (by kernel_rfl) rfl #[c.val ⟨A1,c1,A2,c2,A3,c3,A4,c4⟩,.int .i64 t,.int .i64 ((l.length:Int) + 1),.int .i64 1] (by rfl) rfl rfl (by (try simp only [List.map_toArray,List.map_cons,List.map_nil]);first | done | rfl) ?_
  with_reducible refine (mroll_calls c ⟨A1,c1,A2,c2,A3,c3,A4,c4⟩ t ((l.length:Int) + 1) 1 _ (HCF.out _ (below_step HB.out hHeld))).mono ?_
  rintro e wx ⟨rfl,hb⟩
  refine ⟨_,rfl,?_⟩
  replace hHeld:=below_step hHeld hb
  clear hb
  refine hK.out _ _ hHeld (fun hHeld=>?_)
  clear hK K
  refine norm_ (a':=?_) ?_ ?_
  rotate_left
  ·show Act.put _ (some 72) _ = _
   simp only [Act.put,List.setIfInBounds_toArray,List.set_cons_zero,List.set_cons_succ,i64_w,i32_w]
   rfl
  refine pu_ 15 (some 76) (bz 21 458751) HT_ rfl rfl ?_
  refine pu_ 16 (some 77) (bz 21 524287) HT_ rfl rfl ?_
  refine pu_ 19 (some 16) (bz 21 1048575) HT_ rfl rfl ?_
  refine pu_ 20 (some 17) (bz 21 2097151) HT_ rfl rfl ?_
  refine done_ (done_of HT_.out (by kernel_rfl)) ?_
  go_wp2
  go_meet
  exact ⟨rfl,rfl,⟨hHeld⟩⟩
 case rest=>
 obtain ⟨rfl,rfl,HB2_⟩:=hcut
 have HM2:=Aside0.mk (HM.out.below HB2_.out)
 have HK2:=Aside0.mk (HK.out.trans (KeepM.of_below HB2_.out))
 have HB2:=Aside0.mk (below_step HB.out HB2_.out)
 have HG2:=Aside0.mk (blk_below HG.out HB2_.out)
 clear HM HK HB HG HB2_
 obtain ⟨wk0,hwk0'⟩:∃ wk0:Int,wk0 = s.f2 + rollV c.seed t ((l.length:Int) + 1) 1 % (s.f3 + 1):=⟨_,rfl⟩
 rw [← hwk0'] at HF ⊢
 clear hwk0'
 obtain ⟨fk0,hfk0⟩:∃ fk0:Int,fk0 = s.f4:=⟨_,rfl⟩
 rw [← hfk0] at HF ⊢
 clear hfk0
 obtain ⟨WL,hWL⟩:∃ W:World,W = wc:=⟨_,rfl⟩
 subst hWL
 have HBL:=Aside0.mk (Below.refl WL.heap.size WL)
 go_upto_block 0 with fail
 go_cut [16,17] (fun s16 s17 wz=>s16 = .int .i64 wk∧s17 = .int .i64 fk∧Aside0 (Below WL.heap.size WL wz))
 case first=>
  go_wp2_with fail
  go_loopg [16,17,18] c.fl.length (fun gg s16 s17 s18 wr=>∃ (i:Nat) (w' f':Int),i ≤ c.fl.length∧c.fl.length - i ≤ gg∧s18 = .int .i64 (i:Int)∧s16 = .int .i64 w'∧s17 = .int .i64 f'∧Aside0 (faultsV s.f0 ver slot (c.fl.drop i) w' f' = (wk,fk))∧Aside0 (Below WL.heap.size WL wr))
  case atStart=>exact ⟨0,wk0,fk0,by omega,by omega,by rfl,by rfl,by rfl,⟨by have:=HF.out;simpa using this⟩,HBL⟩
  case round=>
  clear HF HBL
  obtain ⟨i,w',f',hi,hgi,rfl,rfl,rfl,HF,HBR⟩:=hrel
  have m4:wr.cell? ⟨gm,4,none⟩ = some (.slice A4 c.fl.length c4):=(HBR.out.cell (World.block_lt_of_cell? WL ⟨gm,4,none⟩ ((blk_cell HM2.out.blk 4).trans rfl))).trans ((blk_cell HM2.out.blk 4).trans rfl)
  by_cases hlt:i < c.fl.length
  ·have g0:decide ((i:Int) < (c.fl.length:Int)) = true:=by simpa using hlt
   have hF:=HF.out
   clear HF
   rw [List.drop_eq_getElem_cons hlt] at hF
   obtain ⟨ad,e,p0,p1,p2,p3,p4,p5⟩:=at_T61n (HCF.out _ (below_step HB2.out HBR.out)).r4 i hlt
   dsimp only at e
   subst e
   generalize c.fl[i] = xf at hF p0 p1 p2 p3 p4 p5
   obtain ⟨xf0,xf1,⟨xf2,xf3⟩,xf4,xf5⟩:=xf
   dsimp only at p0 p1 p2 p3 p4 p5
   have HF:=Aside0.mk hF
   clear hF
   have n0:gs < wr.heap.size:=Nat.lt_of_lt_of_le (blk_lt HG2.out) HBR.out.size
   go_upto_region 12 with fail
   have hx0:=blk_new wr (.cells #[.string xf0,.string xf1,.int .i64 xf2,.int .i64 xf3,.int .i64 xf4,.int .i64 xf5] 61)
   have hbx:Below WL.heap.size WL (wr.alloc (.cells #[.string xf0,.string xf1,.int .i64 xf2,.int .i64 xf3,.int .i64 xf4,.int .i64 xf5] 61)):=below_alloc HBR.out _
   clear p0 p1 p2 p3 p4 p5 m4
   obtain ⟨gf,hgf⟩:∃ gf:Nat,gf = wr.heap.size:=⟨_,rfl⟩
   rw [← hgf] at hx0 ⊢
   generalize wr.alloc (.cells #[.string xf0,.string xf1,.int .i64 xf2,.int .i64 xf3,.int .i64 xf4,.int .i64 xf5] 61) = wx at hx0 hbx ⊢
   have HX:=Aside0.mk hx0
   have HBX:=Aside0.mk hbx
   clear hx0 hbx hgf n0
   have y0:wx.cell? ⟨gf,0,none⟩ = some (.string xf0):=(blk_cell HX.out 0).trans rfl
   have y1:wx.cell? ⟨gf,1,none⟩ = some (.string xf1):=(blk_cell HX.out 1).trans rfl
   have y2:wx.cell? ⟨gf,2,none⟩ = some (.int .i64 xf2):=(blk_cell HX.out 2).trans rfl
   have y3:wx.cell? ⟨gf,3,none⟩ = some (.int .i64 xf3):=(blk_cell HX.out 3).trans rfl
   have y4:wx.cell? ⟨gf,4,none⟩ = some (.int .i64 xf4):=(blk_cell HX.out 4).trans rfl
   have y5:wx.cell? ⟨gf,5,none⟩ = some (.int .i64 xf5):=(blk_cell HX.out 5).trans rfl
   have g1:wx.cell? ⟨gs,0,none⟩ = some (.string s.f0):=(blk_cell (blk_below HG2.out HBX.out) 0).trans rfl
   go_cut [127] (fun s127 wz=>∃ bb:Bool,s127 = .bool bb∧Aside0 (bb = true→(xf0.toList = s.f0.toList∧xf2 ≤ slot∧slot < xf3∧(xf1.toList = [] ∨ xf1.toList = ver.toList)))∧Aside0 (bb = false→¬ (xf0.toList = s.f0.toList∧xf2 ≤ slot∧slot < xf3∧(xf1.toList = [] ∨ xf1.toList = ver.toList)))∧Aside0 (wz = wx))
   case first=>
    by_cases k1:xf0.toList = s.f0.toList
    ·have j1:(xf0.toList == s.f0.toList) = true:=by simp [k1]
     have i1:=eq_true k1
     by_cases k2:xf2 ≤ slot
     ·have j2:decide (xf2 ≤ slot) = true:=by simpa using k2
      have i2:=eq_true k2
      by_cases k3:slot < xf3
      ·have j3:decide (slot < xf3) = true:=by simpa using k3
       have i3:=eq_true k3
       by_cases k4:xf1.toList = []
       ·have j4:xf1.toList.isEmpty = true:=by rw [k4];rfl
        have i4:=eq_true k4
        have hcc:Aside0 (xf0.toList = s.f0.toList∧xf2 ≤ slot∧slot < xf3∧(xf1.toList = [] ∨ xf1.toList = ver.toList)):=⟨⟨k1,k2,k3,.inl k4⟩⟩
        clear k1 k2 k3 k4
        go_wp2_with fail
        go_meet
        exact ⟨true,rfl,⟨fun _=>hcc.out⟩,⟨fun h=>by cases h⟩,⟨rfl⟩⟩
       ·have j4:xf1.toList.isEmpty = false:=by simpa using k4
        have i4:=eq_false k4
        by_cases k5:xf1.toList = ver.toList
        ·have j5:(xf1.toList == ver.toList) = true:=by simp [k5]
         have i5:=eq_true k5
         have hcc:Aside0 (xf0.toList = s.f0.toList∧xf2 ≤ slot∧slot < xf3∧(xf1.toList = [] ∨ xf1.toList = ver.toList)):=⟨⟨k1,k2,k3,.inr k5⟩⟩
         clear k1 k2 k3 k4 k5
         go_wp2_with fail
         go_meet
         exact ⟨true,rfl,⟨fun _=>hcc.out⟩,⟨fun h=>by cases h⟩,⟨rfl⟩⟩
        ·have j5:(xf1.toList == ver.toList) = false:=by simpa using k5
         have i5:=eq_false k5
         have hcc:Aside0 (¬ (xf0.toList = s.f0.toList∧xf2 ≤ slot∧slot < xf3∧(xf1.toList = [] ∨ xf1.toList = ver.toList))):=⟨fun h=>by rcases h.2.2.2 with h | h;exact k4 h;exact k5 h⟩
         clear k1 k2 k3 k4 k5
         go_wp2_with fail
         go_meet
         exact ⟨false,rfl,⟨fun h=>by cases h⟩,⟨fun _=>hcc.out⟩,⟨rfl⟩⟩
      ·have j3:decide (slot < xf3) = false:=by simpa using k3
       have i3:=eq_false k3
       have hcc:Aside0 (¬ (xf0.toList = s.f0.toList∧xf2 ≤ slot∧slot < xf3∧(xf1.toList = [] ∨ xf1.toList = ver.toList))):=⟨fun h=>k3 h.2.2.1⟩
       clear k1 k2 k3
       go_wp2_with fail
       go_meet
       exact ⟨false,rfl,⟨fun h=>by cases h⟩,⟨fun _=>hcc.out⟩,⟨rfl⟩⟩
     ·have j2:decide (xf2 ≤ slot) = false:=by simpa using k2
      have i2:=eq_false k2
      have hcc:Aside0 (¬ (xf0.toList = s.f0.toList∧xf2 ≤ slot∧slot < xf3∧(xf1.toList = [] ∨ xf1.toList = ver.toList))):=⟨fun h=>k2 h.2.1⟩
      clear k1 k2
      go_wp2_with fail
      go_meet
      exact ⟨false,rfl,⟨fun h=>by cases h⟩,⟨fun _=>hcc.out⟩,⟨rfl⟩⟩
    ·have j1:(xf0.toList == s.f0.toList) = false:=by simpa using k1
     have i1:=eq_false k1
     have hcc:Aside0 (¬ (xf0.toList = s.f0.toList∧xf2 ≤ slot∧slot < xf3∧(xf1.toList = [] ∨ xf1.toList = ver.toList))):=⟨fun h=>k1 h.1⟩
     clear k1
     go_wp2_with fail
     go_meet
     exact ⟨false,rfl,⟨fun h=>by cases h⟩,⟨fun _=>hcc.out⟩,⟨rfl⟩⟩
   case rest=>
   obtain ⟨bb,rfl,hb1,hb2,hw⟩:=hcut
   have hw2:wx = wc:=hw.out.symm
   subst hw2
   clear hw g1 y0 y1 y2 y3
   cases bb with
   | false=>
    have HF2:=Aside0.mk (show faultsV s.f0 ver slot (c.fl.drop (i + 1)) w' f' = (wk,fk) by have h:=HF.out;rwa [faultsV,if_neg (hb2.out rfl)] at h)
    clear HF hb1 hb2 HX y4 y5
    go_wp2_with fail
    go_roundg (c.fl.length - (i + 1))
    case measure=>omega
    case rel=>exact ⟨i + 1,w',f',by omega,Nat.le_refl _,by first | rfl | go_num,rfl,rfl,HF2,HBX⟩
   | true=>
    have HF2:=Aside0.mk (show faultsV s.f0 ver slot (c.fl.drop (i + 1)) (wrap64 (w' + xf4)) (wrap64 (f' + xf5)) = (wk,fk) by have h:=HF.out;rwa [faultsV,if_pos (hb1.out rfl)] at h)
    clear HF hb1 hb2 HX
    go_upto_region 13 with fail
    refine start_ (n:=10) (S:=fun w'=>Below wx.heap.size wx w') (ds:=[]) (bz 10 0) (by kernel_rfl) rfl rfl (Below.refl _ _).drew (fun hHeld=>?_)
    refine with_tabW mkT.tab13 mkT.bits13 (fun HT_ HW_=>?_)
    generalize wx.drew = wd at hHeld ⊢
    refine pu_ 0 (some 128) (bz 10 1) HT_ rfl rfl ?_
    refine pu_ 1 (some 129) (bz 10 3) HT_ rfl rfl ?_
    refine tk_ 2 (some 130) (bz 10 7) HT_ HW_ rfl rfl hHeld ?_ (by intro w' hS;replace y4:=below_at hS y4;go_simp;with_reducible rfl)
    refine pu_ 3 (some 131) (bz 10 15) HT_ rfl rfl ?_
    refine pu_ 4 (some 132) (bz 10 31) HT_ rfl rfl ?_
    refine pu_ 5 (some 133) (bz 10 63) HT_ rfl rfl ?_
    refine tk_ 6 (some 134) (bz 10 127) HT_ HW_ rfl rfl hHeld ?_ (by intro w' hS;replace y5:=below_at hS y5;go_simp;with_reducible rfl)
    refine pu_ 7 (some 135) (bz 10 255) HT_ rfl rfl ?_
    refine pu_ 8 (some 16) (bz 10 511) HT_ rfl rfl ?_
    refine pu_ 9 (some 17) (bz 10 1023) HT_ rfl rfl ?_
    refine done_ (done_of HT_.out (by kernel_rfl)) ?_
    have HBY:=Aside0.mk (below_step HBX.out hHeld)
    clear hHeld HBX y4 y5
    go_wp2_with fail
    go_roundg (c.fl.length - (i + 1))
    case measure=>omega
    case rel=>exact ⟨i + 1,wrap64 (w' + xf4),wrap64 (f' + xf5),by omega,Nat.le_refl _,by first | rfl | go_num,rfl,rfl,HF2,HBY⟩
  ·have g0:decide ((i:Int) < (c.fl.length:Int)) = false:=by simp;omega
   obtain rfl:i = c.fl.length:=by omega
   have hF:=HF.out
   rw [List.drop_length,faultsV] at hF
   injection hF with hF1 hF2
   subst hF1
   subst hF2
   clear HF
   go_wp2
   go_meet
   exact ⟨rfl,rfl,HBR⟩
 case rest=>
 obtain ⟨rfl,rfl,HBR⟩:=hcut
 have HM3:=Aside0.mk (HM2.out.below HBR.out)
 have HK3:=Aside0.mk (HK2.out.trans (KeepM.of_below HBR.out))
 have HB3:=Aside0.mk (below_step HB2.out HBR.out)
 have HG3:=Aside0.mk (blk_below HG2.out HBR.out)
 rename_i hK
 exact hK _ _ (mserve_tail w0 gm gs c A1 c1 A2 c2 A3 c3 A4 c4 t s A5 c5 slot sm n ver parent x wk fk l r1 r2 l' W _ v z1 z2 L2 hl hx0 hx1 hwk0 hwk1 hz1 hz2 hz3 hd hd1 hn5 hgm hgs HA HC HS5 HCF HM3 HK3 HB3 HG3 IH)
end Go.Proofs.YtdadnapfecmmdaaGreat.P
