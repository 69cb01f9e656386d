/- Own texts of a proof about layer 55's simulate (merged): Me. -/
import Derived.Test.YtdadnapfecmmdaaGreatXs14
import Derived.Test.YtdadnapfecmmdaaGreatXs15
import Derived.Test.YtdadnapfecmmdaaGreatXs2
namespace Go.Proofs.YtdadnapfecmmdaaGreat.P
set_option linter.unusedVariables false
set_option linter.unusedSimpArgs false
open Go.RowKit Go.Proofs.YtdadnapfecmmdaaGreatW.PrintWords Go.Proofs.YtdadnapfecmmdaaGreatW.PrintLast Go.Proofs.YtdadnapfecmmdaaGreatW.PrintMore
open Go.Proofs.YtdadnapfecmmdaaGreat.Hm
def mkT.T4:Bool × List (List Nat × List Nat):=(true,[([],[]),([0],[0]),([1],[1]),([2],[2]),([3],[3]),([],[]),([5],[5]),([],[]),([4,6,7],[4,6,7]),([8],[8]),([9],[9]),([9],[9]),([],[]),([12,10,8,0,1,2,3,4,5,6,7,8,9,10,12],[10,12]),([11,13,0,1,2,3,4,5,6,7,8,9,10,11,12,13],[11])])
def mkT.B4:List Nat:=[0,1,3,7,15,0,32,0,255,511,1023,1023,0,6143,16383]
theorem mkT.tab4:rtab .any (opsOf Tryz.f41 4) = mkT.T4:=by kernel_rfl
theorem mkT.bits4:waitsOk mkT.T4.2 mkT.B4 = true:=by kernel_rfl
def mtail4:{ c:Code // tailFrom 4 (Tryz.f41.body.getD .skip) = some c }:=⟨_,by rfl⟩
set_option maxHeartbeats 8000000 in
set_option maxRecDepth 100000 in
theorem mserve_tail4 (w0:World) (gm gs:Nat) (c:Cfg) (A1:Option Addr) (c1:Nat) (A2:Option Addr) (c2:Nat) (A3:Option Addr) (c3:Nat) (A4:Option Addr) (c4:Nat) (t:Int) (s:S51) (A5:Option Addr) (c5:Nat) (slot:Int) (sm:List (ByteArray × SvV)) (n:Nat) (ver:ByteArray) (parent x wk fk:Int) (l:List Sp) (r1:Int) (r2:Bool) (l':List Sp) (W W0:World) (v:Value) (z1:Int) (z2:Bool) (L2:List Sp)
  (a0 a1 a2:Int) (a3 a4:ByteArray) (a6:Bool) (HAC:Aside0 (∀ W',Below w0.heap.size w0 W'→Calls Tryz.prog 69 #[.slice A3 c.ch.length c3,.string s.f0,.int .i64 slot] W' fun e w'=>e = .returned (.tuple #[.agg #[.int .i64 a0,.int .i64 a1,.int .i64 a2,.string a3,.string a4,.string ver],.bool a6])∧Below W'.heap.size W' w')) (HVER:Aside0 (a6 = false→ver = ⟨#[]⟩))
  (hl:l.length < 1000) (hx0:0 ≤ x) (hx1:x ≤ 1152921504606846976) (hwk0:0 ≤ wk) (hwk1:wk ≤ 1099511627776) (hz1:0 ≤ z1) (hz2:z1 ≤ 1152921504606846976) (hz3:l.length < L2.length) (hd:0 ≤ c.delay) (hd1:c.delay ≤ 1048576) (hn5:s.f5.length ≤ 9223372036854775807) (hgm:w0.heap.size ≤ gm) (hgs:gs ≠ gm)
  (HA:Aside0 (z1 + wk - wk / 2 = r1∧z2 = r2∧setEnd L2 l.length (z1 + wk - wk / 2) z2 = l'))
  (hw0:0 ≤ s.f2) (hw1:s.f2 ≤ 1048576) (hj0:0 ≤ s.f3) (hj1:s.f3 ≤ 1048576) (HF:Aside0 (faultsV s.f0 ver slot c.fl (s.f2 + rollV c.seed t ((l.length:Int) + 1) 1 % (s.f3 + 1)) s.f4 = (wk,fk)))
  (HC:Aside0 (callsV c.seed c.delay t ((l.length:Int) + 1) s ver (serveV c slot t sm n) s.f5 (x + wk / 2) (decide (rollV c.seed t ((l.length:Int) + 1) 4 % 1000000 < fk)) (l ++ [⟨t,(l.length:Int) + 1,parent,0,s.f1,3,s.f0,ver,strServe,x,0,false⟩]) = some (z1,z2,L2)))
  (HS5:Aside0 (∀ W',Below w0.heap.size w0 W'→Kd.C Kd.string W' A5 s.f5.length s.f5)) (HCF:Aside0 (∀ W',Below w0.heap.size w0 W'→CfgR W' ⟨A1,c1,A2,c2,A3,c3,A4,c4⟩ c)) (HM:Aside0 (MkAt W0 gm w0.heap.size c ⟨A1,c1,A2,c2,A3,c3,A4,c4⟩ t l v)) (HK:Aside0 (KeepM W v W0 v gm)) (HB:Aside0 (Below w0.heap.size w0 W0)) (HG:Aside0 (W0.heap[gs]? = some (.cells (svCells s A5 c5) 51 (0,0))))
  (IH:Aside0 (∀ (i:Nat) (nm:ByteArray) (hi:i < s.f5.length) (hnm:s.f5[i] = nm) (parent x:Int) (l:List Sp) (r1:Int) (r2:Bool) (l':List Sp) (W:World) (v:Value),serveV c slot t sm n nm parent x l = some (r1,r2,l')→MkAt W gm w0.heap.size c ⟨A1,c1,A2,c2,A3,c3,A4,c4⟩ t l v→Below w0.heap.size w0 W→Calls Tryz.prog 41 #[.pointer (some ⟨gm,0,none⟩),.int .i64 (svIdx c.sv nm),.int .i64 parent,.int .i64 x] W fun e w'=>e = .returned (.tuple #[.int .i64 r1,.bool r2])∧∃ v',MkAt w' gm w0.heap.size c ⟨A1,c1,A2,c2,A3,c3,A4,c4⟩ t l' v'∧KeepM W v w' v' gm∧Below w0.heap.size w0 w')) {q1 q4 q5 q6 q7 q8 q9 q14 q15 q16 q17 q18 q19 q20 q21 q22 q23 q24 q25 q26 q27 q28 q29 q30 q31 q32 q33 q34 q35 q36 q37 q38 q39 q40 q41 q42 q43 q44 q45 q46 q47 q48 q49 q50 q51 q52 q53 q54 q55 q56 q57 q58 q59 q60 q61 q62 q63 q64 q65 q66 q67 q68 q69 q70 q71 q72 q73 q74 q75 q76 q77 q78 q79 q80 q81 q82 q83 q84 q85 q86 q87 q88 q89 q90 q91 q92 q93 q94 q95 q96 q97 q98 q99 q100 q101 q102 q103 q104 q105 q106 q107 q108 q109 q110 q111 q112 q113 q114 q115 q116 q117 q118 q119 q120 q121 q122 q123 q124 q125 q126 q127 q128 q129 q130 q131 q132 q133 q134 q135 q136 q137 q138 q139 q140 q141 q142 q143 q144 q145 q146 q147 q148 q149 q150 q151 q152 q153 q154 q155 q156 q157 q158 q159 q160 q161 q162 q163 q164 q165 q166 q167 q168 q169 q170 q171 q172 q173 q174 q175 q176 q177 q178 q179 q180 q181 q182 q183 q184 q185 q186 q187 q188 q189 q190 q191 q192 q193 q194 q195 q196 q197 q198 q199 q200 q201 q202 q203 q204 q205 q206 q207 q208 q209 q210 q211 q212 q213 q214 q215 q216 q217 q218 q219 q220 q221 q222 q223 q224 q225 q226 q227 q228 q229 q230 q231 q232 q233 q234 q235 q236 q237 q238 q239 q240 q241 q242 q243 q244 q245 q246 q247 q248 q249 q250 q251 q252 q253 q254 q255 q256 q257 q258 q259 q260 q261 q262 q263 q264 q265 q266 q267 q268 q269 q270 q271 q272 q273 q274 q275 q276 q277 q278 q279 q280 q281 q282 q283 q284 q285 q286 q287 q288 q289 q290 q291 q292 q293 q294 q295 q296 q297 q298 q299 q300 q301 q302 q303 q304 q305 q306 q307 q308 q309 q310 q311 q312 q313 q314 q315 q316 q317 q318 q319 q320 q321:Value}:
  Code.wp Tryz.prog mtail4.1 (bodyPost Tryz.prog Tryz.f41 (fun e w'=>e = .returned (.tuple #[.int .i64 r1,.bool r2])∧∃ v',MkAt w' gm w0.heap.size c ⟨A1,c1,A2,c2,A3,c3,A4,c4⟩ t l' v'∧KeepM W v w' v' gm∧Below w0.heap.size w0 w')) { tmps:=List.toArray ((.pointer (some ⟨gm,0,none⟩))::q1::(.int .i64 parent)::(.int .i64 x)::q4::q5::q6::q7::q8::q9::(.pointer (some ⟨gs,0,none⟩))::(.int .i64 slot)::(.int .i64 ((l.length:Int) + 1))::(.string ⟨#[]⟩)::q14::q15::q16::q17::q18::q19::q20::q21::q22::q23::q24::q25::q26::q27::q28::q29::q30::q31::q32::q33::q34::q35::q36::q37::q38::q39::q40::q41::q42::q43::q44::q45::q46::q47::q48::q49::q50::q51::q52::q53::q54::q55::q56::q57::q58::q59::q60::q61::q62::q63::q64::q65::q66::q67::q68::q69::q70::q71::q72::q73::q74::q75::q76::q77::q78::q79::q80::q81::q82::q83::q84::q85::q86::q87::q88::q89::q90::q91::q92::q93::q94::q95::q96::q97::q98::q99::q100::q101::q102::q103::q104::q105::q106::q107::q108::q109::q110::q111::q112::q113::q114::q115::q116::q117::q118::q119::q120::q121::q122::q123::q124::q125::q126::q127::q128::q129::q130::q131::q132::q133::q134::q135::q136::q137::q138::q139::q140::q141::q142::q143::q144::q145::q146::q147::q148::q149::q150::q151::q152::q153::q154::q155::q156::q157::q158::q159::q160::q161::q162::q163::q164::q165::q166::q167::q168::q169::q170::q171::q172::q173::q174::q175::q176::q177::q178::q179::q180::q181::q182::q183::q184::q185::q186::q187::q188::q189::q190::q191::q192::q193::q194::q195::q196::q197::q198::q199::q200::q201::q202::q203::q204::q205::q206::q207::q208::q209::q210::q211::q212::q213::q214::q215::q216::q217::q218::q219::q220::q221::q222::q223::q224::q225::q226::q227::q228::q229::q230::q231::q232::q233::q234::q235::q236::q237::q238::q239::q240::q241::q242::q243::q244::q245::q246::q247::q248::q249::q250::q251::q252::q253::q254::q255::q256::q257::q258::q259::q260::q261::q262::q263::q264::q265::q266::q267::q268::q269::q270::q271::q272::q273::q274::q275::q276::q277::q278::q279::q280::q281::q282::q283::q284::q285::q286::q287::q288::q289::q290::q291::q292::q293::q294::q295::q296::q297::q298::q299::q300::q301::q302::q303::q304::q305::q306::q307::q308::q309::q310::q311::q312::q313::q314::q315::q316::q317::q318::q319::q320::q321::[]),defers:=[] } W0:=by
 dsimp only [mtail4]
 go_upto_region 4 with fail
 have HACT:=Aside0.mk (fun W' (hb:Below W0.heap.size W0 W')=>HAC.out W' (below_step HB.out hb))
 clear HAC
 go_cut [14,15] (fun s14 s15 wz=>∃ ga:Nat,s14 = .pointer (some ⟨ga,0,none⟩)∧s15 = .bool a6∧Aside0 (wz.heap[ga]? = some (.cells #[.int .i64 a0,.int .i64 a1,.int .i64 a2,.string a3,.string a4,.string ver] 98 (0,0)))∧Aside0 (Below W0.heap.size W0 wz))
 case first=>
  have m3:W0.cell? ⟨gm,3,none⟩ = some (.slice A3 c.ch.length c3):=(blk_cell HM.out.blk 3).trans rfl
  have g0:W0.cell? ⟨gs,0,none⟩ = some (.string s.f0):=(blk_cell HG.out 0).trans rfl
  refine start_ (n:=15) (S:=fun w'=>Below W0.heap.size W0 w') (ds:=[13]) (bz 15 0) (by kernel_rfl) rfl rfl (Below.refl _ _).drew (fun hHeld=>?_)
  refine with_tabW mkT.tab4 mkT.bits4 (fun HT_ HW_=>?_)
  generalize W0.drew = wd at hHeld ⊢
  refine pu_ 0 (some 47) (bz 15 1) HT_ rfl rfl ?_
  refine pu_ 1 (some 48) (bz 15 3) HT_ rfl rfl ?_
  refine pu_ 2 (some 49) (bz 15 7) HT_ rfl rfl ?_
  refine pu_ 3 (some 50) (bz 15 15) HT_ rfl rfl ?_
  refine tk_ 4 (some 51) (bz 15 31) HT_ HW_ rfl rfl hHeld ?_ (by intro w' hS;replace m3:=below_at hS m3;go_simp;with_reducible rfl)
  refine pu_ 5 (some 52) (bz 15 63) HT_ rfl rfl ?_
  refine tk_ 6 (some 53) (bz 15 127) HT_ HW_ rfl rfl hHeld ?_ (by intro w' hS;replace g0:=below_at hS g0;go_simp;with_reducible rfl)
  refine pu_ 7 (some 54) (bz 15 255) HT_ rfl rfl ?_
  refine join_ (σ:=Nat) 2 (bz 15 8191) (fun s=>[(55,.tuple #[.agg #[.int .i64 a0,.int .i64 a1,.int .i64 a2,.string a3,.string a4,.string ver],.bool a6]),(14,.pointer (some ⟨s,0,none⟩)),(46,.tuple #[.agg #[.int .i64 a0,.int .i64 a1,.int .i64 a2,.string a3,.string a4,.string ver],.bool a6]),(56,.agg #[.int .i64 a0,.int .i64 a1,.int .i64 a2,.string a3,.string a4,.string ver]),(57,.bool a6)]) (fun s w'=>Below W0.heap.size W0 w'∧w'.heap[s]? = some (.cells #[.int .i64 0,.int .i64 0,.int .i64 0,.string ⟨#[]⟩,.string ⟨#[]⟩,.string ⟨#[]⟩] 98 (0,0))∧W0.heap.size ≤ s) ?_ ?_
  rotate_left
  ·intro hCont
   refine two_ (i:=8) (j:=12) (Ni:=some 55) (Nj:=some 14) (bz 15 511) (bz 15 4351) rfl rfl rfl rfl (two_of HT_.out (by kernel_rfl)) (by decide) (by decide) (fun K hK=>?_) (fun K hK=>?_)
   ·refine goes_ Tryz.func69 (by kernel_rfl) rfl #[.slice A3 c.ch.length c3,.string s.f0,.int .i64 slot] (by rfl) rfl rfl (by (try simp only [List.map_toArray,List.map_cons,List.map_nil]);first | done | rfl) ?_
    with_reducible refine (HACT.out _ hHeld).mono ?_
    rintro e wn ⟨rfl,hb⟩
    refine ⟨_,rfl,?_⟩
    replace hHeld:=below_step hHeld hb
    clear hb
    refine hK.out _ _ hHeld (fun hHeld=>?_)
    clear hK K
    refine norm_ (a':=?_) ?_ ?_
    rotate_left
    ·show Act.put _ (some 55) _ = _
     simp only [Act.put,List.setIfInBounds_toArray,List.set_cons_zero,List.set_cons_succ,i64_w,i32_w]
     rfl
    refine pu_ 9 (some 46) (bz 15 1023) HT_ rfl rfl ?_
    refine pu_ 10 (some 56) (bz 15 2047) HT_ rfl rfl ?_
    refine pu_ 11 (some 57) (bz 15 4095) HT_ rfl rfl ?_
    refine one_ (i:=12) (N:=some 14) (bz 15 8191) rfl rfl (one_of HT_.out (by kernel_rfl)) (by decide) (fun K hK=>?_)
    refine box_step ?hg (N:=14) ?hd (cs:=#[.int .i64 0,.int .i64 0,.int .i64 0,.string ⟨#[]⟩,.string ⟨#[]⟩,.string ⟨#[]⟩]) (t:=98) ?hr ?_;(case hd=>rfl);(case hg=>rfl);(case hr=>first | (go_simp;done) | (go_simp;rfl))
    intro sb hsb ws hbx hb
    have hge:W0.heap.size ≤ sb:=by rw [hsb];exact hHeld.size
    clear hsb
    replace hHeld:=below_step hHeld hb
    clear hb
    refine hK.out _ _ hHeld (fun hHeld=>?_)
    clear hK K
    refine norm_ (a':=?_) ?_ ?_
    rotate_left
    ·show Act.put _ (some 14) _ = _
     simp only [Act.put,List.setIfInBounds_toArray,List.set_cons_zero,List.set_cons_succ,i64_w,i32_w]
     rfl
    exact norm_ (by simp only [putAll,Act.put,List.setIfInBounds_toArray,List.set_cons_zero,List.set_cons_succ]) (hCont sb _ ⟨hHeld,hbx,hge⟩)
   ·refine box_step ?hg (N:=14) ?hd (cs:=#[.int .i64 0,.int .i64 0,.int .i64 0,.string ⟨#[]⟩,.string ⟨#[]⟩,.string ⟨#[]⟩]) (t:=98) ?hr ?_;(case hd=>rfl);(case hg=>rfl);(case hr=>first | (go_simp;done) | (go_simp;rfl))
    intro sb hsb ws hbx hb
    have hge:W0.heap.size ≤ sb:=by rw [hsb];exact hHeld.size
    clear hsb
    replace hHeld:=below_step hHeld hb
    clear hb
    refine hK.out _ _ hHeld (fun hHeld=>?_)
    clear hK K
    refine norm_ (a':=?_) ?_ ?_
    rotate_left
    ·show Act.put _ (some 14) _ = _
     simp only [Act.put,List.setIfInBounds_toArray,List.set_cons_zero,List.set_cons_succ,i64_w,i32_w]
     rfl
    refine one_ (i:=8) (N:=some 55) (bz 15 4607) rfl rfl (one_of HT_.out (by kernel_rfl)) (by decide) (fun K hK=>?_)
    refine goes_ Tryz.func69 (by kernel_rfl) rfl #[.slice A3 c.ch.length c3,.string s.f0,.int .i64 slot] (by rfl) rfl rfl (by (try simp only [List.map_toArray,List.map_cons,List.map_nil]);first | done | rfl) ?_
    with_reducible refine (HACT.out _ hHeld).mono ?_
    rintro e wn ⟨rfl,hb⟩
    refine ⟨_,rfl,?_⟩
    replace hbx:=blk_below hbx hb
    replace hHeld:=below_step hHeld hb
    clear hb
    refine hK.out _ _ hHeld (fun hHeld=>?_)
    clear hK K
    refine norm_ (a':=?_) ?_ ?_
    rotate_left
    ·show Act.put _ (some 55) _ = _
     simp only [Act.put,List.setIfInBounds_toArray,List.set_cons_zero,List.set_cons_succ,i64_w,i32_w]
     rfl
    refine pu_ 9 (some 46) (bz 15 5119) HT_ rfl rfl ?_
    refine pu_ 10 (some 56) (bz 15 6143) HT_ rfl rfl ?_
    refine pu_ 11 (some 57) (bz 15 8191) HT_ rfl rfl ?_
    exact norm_ (by simp only [putAll,Act.put,List.setIfInBounds_toArray,List.set_cons_zero,List.set_cons_succ]) (hCont sb _ ⟨hHeld,hbx,hge⟩)
  rintro sb w5 ⟨hHeld,hbx,hge⟩
  have hK5:=Aside0.mk hbx
  have c10:=(blk_cell hbx 0).trans rfl
  have c11:=(blk_cell hbx 1).trans rfl
  have c12:=(blk_cell hbx 2).trans rfl
  have c13:=(blk_cell hbx 3).trans rfl
  have c14:=(blk_cell hbx 4).trans rfl
  have c15:=(blk_cell hbx 5).trans rfl
  have d10:=blk_frozen hbx 0
  have d11:=blk_frozen hbx 1
  have d12:=blk_frozen hbx 2
  have d13:=blk_frozen hbx 3
  have d14:=blk_frozen hbx 4
  have d15:=blk_frozen hbx 5
  clear hbx
  refine norm_ (a':=?_) ?_ ?_
  rotate_left
  ·simp only [putAll,Act.put,List.setIfInBounds_toArray,List.set_cons_zero,List.set_cons_succ]
   rfl
  refine last_ (i:=13) (N:=none) (bz 15 16383) rfl rfl (one_of HT_.out (by kernel_rfl)) (by decide) (fun K hK=>?_)
  rw [if_pos (by rfl)]
  go_simp
  refine hK.out _ _ ?_
  clear hK K
  refine pu_ 14 (some 15) (bz 15 32767) HT_ rfl rfl ?_
  refine done_ (done_of HT_.out (by kernel_rfl)) ?_
  go_wp2
  go_meet
  exact ⟨sb,rfl,rfl,⟨fill6 hK5.out _ _ _ _ _ _⟩,⟨below6 hHeld hge _ _ _ _ _ _⟩⟩
 case rest=>
 obtain ⟨ga,rfl,rfl,HGA,HB4⟩:=hcut
 clear HACT
 have x5:wc.cell? ⟨ga,5,none⟩ = some (.string ver):=(blk_cell HGA.out 5).trans rfl
 go_upto_if 58 with fail
 go_cut [13] (fun s13 wz=>s13 = .string ver∧Aside0 (Below W0.heap.size W0 wz))
 case first=>
  cases a6 with
  | true=>
   clear HVER
   go_wp2_with fail
   go_meet
   exact ⟨rfl,HB4⟩
  | false=>
   have ev2:=HVER.out rfl
   go_wp2_with fail
   go_meet
   exact ⟨by rw [ev2],HB4⟩
 case rest=>
 clear HB4 x5 HGA
 obtain ⟨rfl,HB4⟩:=hcut
 refine ‹∀ (a:Go.Act) (w:World),Code.wp Tryz.prog mtail7.1 _ a w→_› _ _ (mserve_tail7 w0 gm gs c A1 c1 A2 c2 A3 c3 A4 c4 t s A5 c5 slot sm n ver parent x wk fk l r1 r2 l' W _ v z1 z2 L2 hl hx0 hx1 hwk0 hwk1 hz1 hz2 hz3 hd hd1 hn5 hgm hgs hw0 hw1 hj0 hj1 HA HF HC HS5 HCF ⟨HM.out.below HB4.out⟩ ⟨HK.out.trans (KeepM.of_below HB4.out)⟩ ⟨below_step HB.out HB4.out⟩ ⟨blk_below HG.out HB4.out⟩ IH)
def mkT.T1:Bool × List (List Nat × List Nat):=(true,[([],[]),([0],[0]),([1],[1]),([2],[2]),([3],[3]),([],[]),([4,5],[4,5]),([6],[6]),([],[]),([8],[8]),([9],[9]),([10],[10]),([11],[11]),([],[]),([13,7,12,0,1,2,3,4,5,6,7,13],[7,13]),([12,14,0,1,2,3,4,5,6,7,8,9,10,11,12,13,14],[12])])
def mkT.B1:List Nat:=[0,1,3,7,15,0,63,127,0,256,768,1792,3840,0,16383,32767]
theorem mkT.tab1:rtab .any (opsOf Tryz.f41 1) = mkT.T1:=by kernel_rfl
theorem mkT.bits1:waitsOk mkT.T1.2 mkT.B1 = true:=by kernel_rfl
set_option maxHeartbeats 8000000 in
set_option maxRecDepth 100000 in
theorem mserve_step (w0:World) (gm:Nat) (c:Cfg) (A1:Option Addr) (c1:Nat) (A2:Option Addr) (c2:Nat) (A3:Option Addr) (c3:Nat) (A4:Option Addr) (c4:Nat) (t slot:Int) (n j:Nat) (hslot:slot = t / 1048576) (hR:CfgR w0 ⟨A1,c1,A2,c2,A3,c3,A4,c4⟩ c) (hSys:Sys c) (hgm:w0.heap.size ≤ gm) (hn:100 ≤ n) (hj:j < c.sv.length) (s:S51) (hs:c.sv[j] = s)
  (IH:Aside0 (∀ (i:Nat) (nm:ByteArray) (hi:i < s.f5.length) (hnm:s.f5[i] = nm) (parent x:Int) (l:List Sp) (r1:Int) (r2:Bool) (l':List Sp) (W:World) (v:Value),serveV c slot t (smC c.sv) n nm parent x l = some (r1,r2,l')→MkAt W gm w0.heap.size c ⟨A1,c1,A2,c2,A3,c3,A4,c4⟩ t l v→Below w0.heap.size w0 W→Calls Tryz.prog 41 #[.pointer (some ⟨gm,0,none⟩),.int .i64 (svIdx c.sv nm),.int .i64 parent,.int .i64 x] W fun e w'=>e = .returned (.tuple #[.int .i64 r1,.bool r2])∧∃ v',MkAt w' gm w0.heap.size c ⟨A1,c1,A2,c2,A3,c3,A4,c4⟩ t l' v'∧KeepM W v w' v' gm∧Below w0.heap.size w0 w')) (parent x:Int) (l:List Sp) (r1:Int) (r2:Bool) (l':List Sp) (W:World) (v:Value) (h:serveV c slot t (smC c.sv) (n + 1) (nm4 j) parent x l = some (r1,r2,l')) (hM:MkAt W gm w0.heap.size c ⟨A1,c1,A2,c2,A3,c3,A4,c4⟩ t l v) (hB:Below w0.heap.size w0 W):
  Calls Tryz.prog 41 #[.pointer (some ⟨gm,0,none⟩),.int .i64 (j:Int),.int .i64 parent,.int .i64 x] W fun e w'=>e = .returned (.tuple #[.int .i64 r1,.bool r2])∧∃ v',MkAt w' gm w0.heap.size c ⟨A1,c1,A2,c2,A3,c3,A4,c4⟩ t l' v'∧KeepM W v w' v' gm∧Below w0.heap.size w0 w':=by
 have hCF:∀ W',Below w0.heap.size w0 W'→CfgR W' ⟨A1,c1,A2,c2,A3,c3,A4,c4⟩ c:=fun W' hb=>hR.below hb
 have HCF:=Aside0.mk hCF
 unfold serveV at h
 rw [hSys.look j hj] at h
 simp only [Option.bind_some] at h
 obtain ⟨act,hact,h⟩:=Option.bind_eq_some_iff.mp h
 try dsimp only at h
 rw [hs] at h
 by_cases hg0:l.length < 1000∧0 ≤ x∧x ≤ BIG∧0 ≤ s.f3∧s.f3 ≤ 1048576∧0 ≤ s.f2∧s.f2 ≤ 1048576
 case neg=>rw [if_neg hg0] at h;cases h
 rw [if_pos hg0] at h
 obtain ⟨hl,hx0,hx1,hj0,hj1,hw0,hw1⟩:=hg0
 unfold BIG at hx1
 have hnm:nm4 j = s.f0:=by rw [← hs,hSys.name j hj]
 rw [hnm] at h hact
 have hd:=hSys.delay0
 have hd1:c.delay ≤ 1048576:=by have:=hSys.delay1;omega
 have hchl:c.ch.length ≤ 40:=by have:=hSys.chg;omega
 have hac:=act_ok c.ch hchl s.f0 slot
 rw [hac.1 n hn] at hact
 have hver:act.2.2.2.2.2.2 = false→act.2.2.2.2.2.1 = ⟨#[]⟩:=fun hf=>by
  injection hact with hact
  rw [← hact] at hf ⊢
  rcases hac.2 with e | ⟨y,_,e,_⟩
  ·rw [e];rfl
  ·rw [e] at hf;cases hf
 have HAC:=Aside0.mk (fun W' (hb:Below w0.heap.size w0 W')=>active_calls n A3 c3 c.ch s.f0 slot act W' (hCF W' hb).r3 (hCF W' hb).l3 ((hac.1 n hn).trans hact))
 clear hac hact
 obtain ⟨a0,a1,a2,a3,a4,ver,a6⟩:=act
 dsimp only at h hver HAC
 obtain ⟨wf,hwf⟩:∃ wf:Int × Int,wf = faultsV s.f0 ver slot c.fl (s.f2 + rollV c.seed t ((l.length:Int) + 1) 1 % (s.f3 + 1)) s.f4:=⟨_,rfl⟩
 rw [← hwf] at h
 obtain ⟨wk,fk⟩:=wf
 dsimp only at h
 by_cases hwk:0 ≤ wk∧wk ≤ 1099511627776
 case neg=>rw [if_neg hwk] at h;cases h
 rw [if_pos hwk] at h
 obtain ⟨q,hq,h⟩:=Option.bind_eq_some_iff.mp h
 obtain ⟨z1,z2,L2⟩:=q
 dsimp only at h
 by_cases hz:0 ≤ z1∧z1 ≤ BIG∧l.length < L2.length
 case neg=>rw [if_neg hz] at h;cases h
 rw [if_pos hz] at h
 injection h with h
 injection h with hA1 h
 injection h with hA2 hA3
 obtain ⟨hz1,hz2,hz3⟩:=hz
 obtain ⟨hwk0,hwk1⟩:=hwk
 unfold BIG at hz2
 have HA:=Aside0.mk (And.intro hA1 (And.intro hA2 hA3))
 have HF:=Aside0.mk hwf.symm
 have HC:=Aside0.mk hq
 have HVER:=Aside0.mk hver
 clear hA1 hA2 hA3 hwf hq hver
 have HM:=Aside0.mk hM
 have HB:=Aside0.mk hB
 clear hM
 obtain ⟨ad1,A5,c5,e1,h0,h1,h2,h3,h4,h5,_,k5⟩:=at_T51 (hCF W hB).r1 (j:Int) (by omega) (by omega)
 dsimp only at e1
 subst e1
 rw [rd_T51_get c.sv j hj,hs] at h0 h1 h2 h3 h4 h5 k5
 simp only [Int.toNat_natCast] at h0 h1 h2 h3 h4 h5
 have hn5:s.f5.length ≤ 9223372036854775807:=k5.2.1
 have HS5:Aside0 (∀ W',Below w0.heap.size w0 W'→Kd.C Kd.string W' A5 s.f5.length s.f5):=⟨fun W' hb=>by
  obtain ⟨ad2,B5,d5,e2,_,_,_,_,_,h5',_,k5'⟩:=at_T51 (hCF W' hb).r1 (j:Int) (by omega) (by omega)
  dsimp only at e2
  injection e2 with e2
  subst e2
  rw [rd_T51_get c.sv j hj,hs] at h5' k5'
  simp only [Int.toNat_natCast] at h5'
  obtain ⟨ad3,C5,f5',e3,_,_,_,_,_,h5'',_,k5''⟩:=at_T51 hR.r1 (j:Int) (by omega) (by omega)
  dsimp only at e3
  injection e3 with e3
  subst e3
  rw [rd_T51_get c.sv j hj,hs] at h5'' k5''
  simp only [Int.toNat_natCast] at h5''
  have q1:=(hB.cell (World.block_lt_of_cell? w0 _ h5'')).trans h5''
  have q2:=(hb.cell (World.block_lt_of_cell? w0 _ h5'')).trans h5''
  rw [h5] at q1
  rw [h5'] at q2
  injection q1 with q1
  injection q2 with q2
  injection q1 with q1
  injection q2 with q2
  subst q1
  subst q2
  exact k5'⟩
 clear k5 hB
 have n0:gm < W.heap.size:=HM.out.lt
 go_enter Tryz.func41,Tryz.ntmps41
 go_upto_region 1 with fail
 go_cut [10,11] (fun s10 s11 wz=>∃ gs:Nat,s10 = .pointer (some ⟨gs,0,none⟩)∧s11 = .int .i64 slot∧Aside0 (wz.heap[gs]? = some (.cells (svCells s A5 c5) 51 (0,0)))∧Aside0 (W.heap.size ≤ gs)∧Aside0 (Below W.heap.size W wz))
 case first=>
  have z1:(0:Int) ≤ (j:Int):=by omega
  have z2:(j:Int) < (c.sv.length:Int):=by omega
  have m1:W.cell? ⟨gm,1,none⟩ = some (.slice (some ad1) c.sv.length c1):=(blk_cell HM.out.blk 1).trans rfl
  have m12:W.cell? ⟨gm,12,none⟩ = some (.int .i64 t):=(blk_cell HM.out.blk 12).trans rfl
  refine start_ (n:=16) (S:=fun w'=>Below W.heap.size W w') (ds:=[14]) (bz 16 0) (by kernel_rfl) rfl rfl (Below.refl _ _).drew (fun hHeld=>?_)
  refine with_tabW mkT.tab1 mkT.bits1 (fun HT_ HW_=>?_)
  generalize W.drew = wd at hHeld ⊢
  refine pu_ 0 (some 27) (bz 16 1) HT_ rfl rfl ?_
  refine pu_ 1 (some 28) (bz 16 3) HT_ rfl rfl ?_
  refine pu_ 2 (some 29) (bz 16 7) HT_ rfl rfl ?_
  refine pu_ 3 (some 30) (bz 16 15) HT_ rfl rfl ?_
  refine tk_ 4 (some 31) (bz 16 31) HT_ HW_ rfl rfl hHeld ?_ (by intro w' hS;replace m1:=below_at hS m1;go_simp;with_reducible rfl)
  refine pu_ 5 (some 32) (bz 16 63) HT_ rfl rfl ?_
  refine pu_ 6 (some 33) (bz 16 127) HT_ rfl rfl ?_
  refine tk_ 7 (some 34) (bz 16 255) HT_ HW_ rfl rfl hHeld ?_ (by intro w' hS;replace h0:=below_at hS h0;replace h1:=below_at hS h1;replace h2:=below_at hS h2;replace h3:=below_at hS h3;replace h4:=below_at hS h4;replace h5:=below_at hS h5;go_simp;with_reducible rfl)
  refine pu_ 8 (some 35) (bz 16 511) HT_ rfl rfl ?_
  refine pu_ 9 (some 36) (bz 16 1023) HT_ rfl rfl ?_
  refine pu_ 10 (some 37) (bz 16 2047) HT_ rfl rfl ?_
  refine tk_ 11 (some 38) (bz 16 4095) HT_ HW_ rfl rfl hHeld ?_ (by intro w' hS;replace m12:=below_at hS m12;go_simp;with_reducible rfl)
  refine join_ (σ:=Nat) 2 (bz 16 16383) (fun s=>[(39,.int .i64 (t / 1048576)),(10,.pointer (some ⟨s,0,none⟩))]) (fun s w'=>Below W.heap.size W w'∧w'.heap[s]? = some (.cells #[.string ⟨#[]⟩,.int .i64 0,.int .i64 0,.int .i64 0,.int .i64 0,.slice none 0 0] 51 (0,0))∧W.heap.size ≤ s) ?_ ?_
  rotate_left
  ·intro hCont
   refine two_ (i:=12) (j:=13) (Ni:=some 39) (Nj:=some 10) (bz 16 8191) (bz 16 12287) rfl rfl rfl rfl (two_of HT_.out (by kernel_rfl)) (by decide) (by decide) (fun K hK=>?_) (fun K hK=>?_)
   ·refine goes_ Tryz.func68 (by kernel_rfl) rfl #[.int .i64 t] (by rfl) rfl rfl (by (try simp only [List.map_toArray,List.map_cons,List.map_nil]);first | done | rfl) ?_
    with_reducible refine (span_Slot.calls t (t / 1048576) _ rfl).mono ?_
    rintro e wn ⟨rfl,⟨nd,rfl⟩⟩
    refine ⟨_,rfl,?_⟩
    replace hHeld:=pw_below_drewN hHeld nd
    refine hK.out _ _ hHeld (fun hHeld=>?_)
    clear hK K
    refine norm_ (a':=?_) ?_ ?_
    rotate_left
    ·show Act.put _ (some 39) _ = _
     simp only [Act.put,List.setIfInBounds_toArray,List.set_cons_zero,List.set_cons_succ,i64_w,i32_w]
     rfl
    refine one_ (i:=13) (N:=some 10) (bz 16 16383) rfl rfl (one_of HT_.out (by kernel_rfl)) (by decide) (fun K hK=>?_)
    refine box_step ?hg (N:=10) ?hd (cs:=#[.string ⟨#[]⟩,.int .i64 0,.int .i64 0,.int .i64 0,.int .i64 0,.slice none 0 0]) (t:=51) ?hr ?_;(case hd=>rfl);(case hg=>rfl);(case hr=>first | (go_simp;done) | (go_simp;rfl))
    intro sb hsb ws hbx hb
    have hge:W.heap.size ≤ sb:=by rw [hsb];exact hHeld.size
    clear hsb
    replace hHeld:=below_step hHeld hb
    clear hb
    refine hK.out _ _ hHeld (fun hHeld=>?_)
    clear hK K
    refine norm_ (a':=?_) ?_ ?_
    rotate_left
    ·show Act.put _ (some 10) _ = _
     simp only [Act.put,List.setIfInBounds_toArray,List.set_cons_zero,List.set_cons_succ,i64_w,i32_w]
     rfl
    exact norm_ (by simp only [putAll,Act.put,List.setIfInBounds_toArray,List.set_cons_zero,List.set_cons_succ]) (hCont sb _ ⟨hHeld,hbx,hge⟩)
   ·refine box_step ?hg (N:=10) ?hd (cs:=#[.string ⟨#[]⟩,.int .i64 0,.int .i64 0,.int .i64 0,.int .i64 0,.slice none 0 0]) (t:=51) ?hr ?_;(case hd=>rfl);(case hg=>rfl);(case hr=>first | (go_simp;done) | (go_simp;rfl))
    intro sb hsb ws hbx hb
    have hge:W.heap.size ≤ sb:=by rw [hsb];exact hHeld.size
    clear hsb
    replace hHeld:=below_step hHeld hb
    clear hb
    refine hK.out _ _ hHeld (fun hHeld=>?_)
    clear hK K
    refine norm_ (a':=?_) ?_ ?_
    rotate_left
    ·show Act.put _ (some 10) _ = _
     simp only [Act.put,List.setIfInBounds_toArray,List.set_cons_zero,List.set_cons_succ,i64_w,i32_w]
     rfl
    refine one_ (i:=12) (N:=some 39) (bz 16 16383) rfl rfl (one_of HT_.out (by kernel_rfl)) (by decide) (fun K hK=>?_)
    refine goes_ Tryz.func68 (by kernel_rfl) rfl #[.int .i64 t] (by rfl) rfl rfl (by (try simp only [List.map_toArray,List.map_cons,List.map_nil]);first | done | rfl) ?_
    with_reducible refine (span_Slot.calls t (t / 1048576) _ rfl).mono ?_
    rintro e wn ⟨rfl,⟨nd,rfl⟩⟩
    refine ⟨_,rfl,?_⟩
    replace hbx:=blk_drewN hbx nd
    replace hHeld:=pw_below_drewN hHeld nd
    refine hK.out _ _ hHeld (fun hHeld=>?_)
    clear hK K
    refine norm_ (a':=?_) ?_ ?_
    rotate_left
    ·show Act.put _ (some 39) _ = _
     simp only [Act.put,List.setIfInBounds_toArray,List.set_cons_zero,List.set_cons_succ,i64_w,i32_w]
     rfl
    exact norm_ (by simp only [putAll,Act.put,List.setIfInBounds_toArray,List.set_cons_zero,List.set_cons_succ]) (hCont sb _ ⟨hHeld,hbx,hge⟩)
  rintro sb w5 ⟨hHeld,hbx,hge⟩
  have hK5:=Aside0.mk hbx
  have c10:=(blk_cell hbx 0).trans rfl
  have c11:=(blk_cell hbx 1).trans rfl
  have c12:=(blk_cell hbx 2).trans rfl
  have c13:=(blk_cell hbx 3).trans rfl
  have c14:=(blk_cell hbx 4).trans rfl
  have c15:=(blk_cell hbx 5).trans rfl
  have d10:=blk_frozen hbx 0
  have d11:=blk_frozen hbx 1
  have d12:=blk_frozen hbx 2
  have d13:=blk_frozen hbx 3
  have d14:=blk_frozen hbx 4
  have d15:=blk_frozen hbx 5
  clear hbx
  refine norm_ (a':=?_) ?_ ?_
  rotate_left
  ·simp only [putAll,Act.put,List.setIfInBounds_toArray,List.set_cons_zero,List.set_cons_succ]
   rfl
  refine last_ (i:=14) (N:=none) (bz 16 32767) rfl rfl (one_of HT_.out (by kernel_rfl)) (by decide) (fun K hK=>?_)
  rw [if_pos (by rfl)]
  go_simp
  refine hK.out _ _ ?_
  clear hK K
  refine pu_ 15 (some 11) (bz 16 65535) HT_ rfl rfl ?_
  refine done_ (done_of HT_.out (by kernel_rfl)) ?_
  go_wp2
  go_meet
  exact ⟨sb,rfl,by rw [hslot],⟨fill6 hK5.out _ _ _ _ _ _⟩,⟨hge⟩,⟨below6 hHeld hge _ _ _ _ _ _⟩⟩
 case rest=>
 obtain ⟨gs,rfl,rfl,HG,HGE,HB1⟩:=hcut
 have hgs:gs ≠ gm:=by have:=HGE.out;omega
 clear h0 h1 h2 h3 h4 h5 n0
 obtain ⟨Av,cpv,ev⟩:=own_slice HM.out.own
 have m13:wc.cell? ⟨gm,13,none⟩ = some (.slice Av l.length cpv):=(blk_cell (blk_below HM.out.blk HB1.out) 13).trans (by rw [ev];rfl)
 have s1:IntKind.i64.wrap ((l.length:Int) + 1) = (l.length:Int) + 1:=IntWalk.i64_in _ (by omega)
 go_upto_region 3 with fail
 go_cut [13] (fun s13 wz=>s13 = .string ⟨#[]⟩∧Aside0 (Below W.heap.size W wz)∧Aside0 (wz.heap[gs]? = some (.cells (svCells s A5 c5) 51 (0,0))))
 case first=>
  clear m13 s1 ev
  go_wp2_with fail
  go_meet
  exact ⟨rfl,HB1,HG⟩
 case rest=>
 clear HB1 HG HGE m13 s1 ev
 obtain ⟨rfl,HB1,HG⟩:=hcut
 refine ‹∀ (a:Go.Act) (w:World),Code.wp Tryz.prog mtail4.1 _ a w→_› _ _ (mserve_tail4 w0 gm gs c (some ad1) c1 A2 c2 A3 c3 A4 c4 t s A5 c5 slot (smC c.sv) n ver parent x wk fk l r1 r2 l' W _ v z1 z2 L2 a0 a1 a2 a3 a4 a6 HAC HVER hl hx0 hx1 hwk0 hwk1 hz1 hz2 hz3 hd hd1 hn5 hgm hgs HA hw0 hw1 hj0 hj1 HF HC HS5 HCF ⟨HM.out.below HB1.out⟩ ⟨KeepM.of_below HB1.out⟩ ⟨below_step HB.out HB1.out⟩ HG IH)
theorem mserve_calls (w0:World) (gm:Nat) (c:Cfg) (p:CfgAt) (t:Int) (hR:CfgR w0 p c) (hSys:Sys c) (hgm:w0.heap.size ≤ gm):∀ (d j:Nat),j < c.sv.length→c.sv.length ≤ j + d→∀ (parent x:Int) (l:List Sp) (r1:Int) (r2:Bool) (l':List Sp) (W:World) (v:Value),serveV c (t / 1048576) t (smC c.sv) (100 + d) (nm4 j) parent x l = some (r1,r2,l')→MkAt W gm w0.heap.size c p t l v→Below w0.heap.size w0 W→
  Calls Tryz.prog 41 #[.pointer (some ⟨gm,0,none⟩),.int .i64 (j:Int),.int .i64 parent,.int .i64 x] W fun e w'=>e = .returned (.tuple #[.int .i64 r1,.bool r2])∧∃ v',MkAt w' gm w0.heap.size c p t l' v'∧KeepM W v w' v' gm∧Below w0.heap.size w0 w'
 | 0,j,hj,hd=>by omega
 | d + 1,j,hj,hd=>fun parent x l r1 r2 l' W v h hM hB=>by
  obtain ⟨A1,c1,A2,c2,A3,c3,A4,c4⟩:=p
  refine mserve_step w0 gm c A1 c1 A2 c2 A3 c3 A4 c4 t _ (100 + d) j rfl hR hSys hgm (by omega) hj _ rfl ⟨fun i nm hi hnm parent x l r1 r2 l' W v h hM hB=>?_⟩ parent x l r1 r2 l' W v h hM hB
  obtain ⟨k,hk1,hk2,rfl⟩:=hSys.calls j hj nm (hnm ▸ List.getElem_mem _)
  rw [hSys.idx k hk2]
  exact mserve_calls w0 gm c _ t hR hSys hgm d k hk2 (by omega) parent x l r1 r2 l' W v h hM hB
theorem traceId_slot (slot k:Int) (hk0:0 ≤ k) (hk1:k ≤ 1000):traceId slot k / 1048576 = slot:=by
 unfold traceId
 omega
theorem mtrace_calls (w0:World) (gm:Nat) (c:Cfg) (p:CfgAt) (slot k:Int) (hs0:0 ≤ slot) (hs1:slot ≤ 1000) (hk0:0 ≤ k) (hk1:k ≤ 1000) (hR:CfgR w0 p c) (hSys:Sys c) (hgm:w0.heap.size ≤ gm) (W:World) (v:Value) (hM:MkAt W gm w0.heap.size c p (traceId slot k) [] v) (hB:Below w0.heap.size w0 W):
  ∃ r1 r2,Calls Tryz.prog 41 #[.pointer (some ⟨gm,0,none⟩),.int .i64 0,.int .i64 0,.int .i64 (1000 * slot + 7 * k)] W fun e w'=>e = .returned (.tuple #[.int .i64 r1,.bool r2])∧∃ v',MkAt w' gm w0.heap.size c p (traceId slot k) (traceI c slot k) v'∧KeepM W v w' v' gm∧Below w0.heap.size w0 w':=by
 have h0:=hSys.n0
 have h4:=hSys.n4
 have hb:=lng_le c.sv.length h4
 have hBIG:BIG = 1152921504606846976:=rfl
 have he:=(serve_eq c hSys slot (traceId slot k) c.sv.length 0 (by omega) (by omega) (100 + c.sv.length) (Nat.le_refl _) 0 (1000 * slot + 7 * k) [] (by simp only [List.length_nil];omega) (by omega) (by rw [hBIG];omega)).1
 have e:serveV c (traceId slot k / 1048576) = serveV c slot:=by rw [traceId_slot slot k hk0 hk1]
 rw [← e] at he
 exact ⟨_,_,mserve_calls w0 gm c p (traceId slot k) hR hSys hgm c.sv.length 0 (by omega) (by omega) 0 _ [] _ _ _ W v he hM hB⟩
end Go.Proofs.YtdadnapfecmmdaaGreat.P
