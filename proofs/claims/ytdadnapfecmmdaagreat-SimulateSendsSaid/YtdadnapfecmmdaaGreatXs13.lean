/- Own texts of a proof about layer 55's simulate (merged): Mc. -/
import Derived.Test.YtdadnapfecmmdaaGreatXs12
import Derived.Test.YtdadnapfecmmdaaGreatXs2
namespace Go.Proofs.YtdadnapfecmmdaaGreat.P
set_option linter.unusedVariables false
set_option linter.unusedSimpArgs false
open Go.RowKit Go.Proofs.YtdadnapfecmmdaaGreatW.PrintWords Go.Proofs.YtdadnapfecmmdaaGreatW.PrintLast Go.Proofs.YtdadnapfecmmdaaGreatW.PrintMore
open Go.Proofs.YtdadnapfecmmdaaGreat.Hm
def mkT.T30:Bool × List (List Nat × List Nat):=(true,[([],[]),([0],[0]),([1],[1]),([2],[2]),([],[]),([4],[4]),([],[]),([6],[6]),([7],[7]),([8],[8]),([],[]),([10],[10]),([],[]),([],[]),([3,5,0,1,2,3,4,5,9,12],[3,5]),([14,0,1,2,3,4,5,9,12],[14]),([15,12,0,1,2,3,4,5,9,12],[12,15]),([9,11,0,1,2,3,4,5,6,7,8,9,10,11,12,13,14,15,16],[9,11]),([17,0,1,2,3,4,5,6,7,8,9,10,11,12,13,14,15,16],[17]),([18,13,16,0,1,2,3,4,5,6,7,8,9,10,11,12,13,14,15,16],[13,18])])
def mkT.B30:List Nat:=[0,1,3,7,0,16,0,64,192,448,0,1024,0,0,5119,21503,54271,131071,262143,524287]
theorem mkT.tab30:rtab .any (opsOf Tryz.f41 30) = mkT.T30:=by kernel_rfl
theorem mkT.bits30:waitsOk mkT.T30.2 mkT.B30 = true:=by kernel_rfl
def mtail29:{ c:Code // tailFrom 29 (Tryz.f41.body.getD .skip) = some c }:=⟨_,by rfl⟩
set_option maxHeartbeats 8000000 in
set_option maxRecDepth 100000 in
theorem mserve_end (w0:World) (gm:Nat) (c:Cfg) (A1:Option Addr) (c1:Nat) (A2:Option Addr) (c2:Nat) (A3:Option Addr) (c3:Nat) (A4:Option Addr) (c4:Nat) (t y wk:Int) (bf:Bool) (l L:List Sp) (r1:Int) (r2:Bool) (l':List Sp) (W W0:World) (v v4:Value)
  (hl:l.length < 1000) (hwk0:0 ≤ wk) (hwk1:wk ≤ 1099511627776) (hz1:0 ≤ y) (hz2:y ≤ 1152921504606846976) (hz3:l.length < L.length) (HA:Aside0 (y + wk - wk / 2 = r1∧bf = r2∧setEnd L l.length (y + wk - wk / 2) bf = l'))
  (HM5:Aside0 (MkAt W0 gm w0.heap.size c ⟨A1,c1,A2,c2,A3,c3,A4,c4⟩ t L v4)) (HK6:Aside0 (KeepM W v W0 v4 gm)) (HB5:Aside0 (Below w0.heap.size w0 W0)) {q1 q2 q3 q4 q5 q6 q7 q8 q10 q11 q13 q14 q15 q17 q18 q19 q20 q22 q23 q24 q25 q26 q27 q28 q29 q30 q31 q32 q33 q34 q35 q36 q37 q38 q39 q40 q41 q42 q43 q44 q45 q46 q47 q48 q49 q50 q51 q52 q53 q54 q55 q56 q57 q58 q59 q60 q61 q62 q63 q64 q65 q66 q67 q68 q69 q70 q71 q72 q73 q74 q75 q76 q77 q78 q79 q80 q81 q82 q83 q84 q85 q86 q87 q88 q89 q90 q91 q92 q93 q94 q95 q96 q97 q98 q99 q100 q101 q102 q103 q104 q105 q106 q107 q108 q109 q110 q111 q112 q113 q114 q115 q116 q117 q118 q119 q120 q121 q122 q123 q124 q125 q126 q127 q128 q129 q130 q131 q132 q133 q134 q135 q136 q137 q138 q139 q140 q141 q142 q143 q144 q145 q146 q147 q148 q149 q150 q151 q152 q153 q154 q155 q156 q157 q158 q159 q160 q161 q162 q163 q164 q165 q166 q167 q168 q169 q170 q171 q172 q173 q174 q175 q176 q177 q178 q179 q180 q181 q182 q183 q184 q185 q186 q187 q188 q189 q190 q191 q192 q193 q194 q195 q196 q197 q198 q199 q200 q201 q202 q203 q204 q205 q206 q207 q208 q209 q210 q211 q212 q213 q214 q215 q216 q217 q218 q219 q220 q221 q222 q223 q224 q225 q226 q227 q228 q229 q230 q231 q232 q233 q234 q235 q236 q237 q238 q239 q240 q241 q242 q243 q244 q245 q246 q247 q248 q249 q250 q251 q252 q253 q254 q255 q256 q257 q258 q259 q260 q261 q262 q263 q264 q265 q266 q267 q268 q269 q270 q271 q272 q273 q274 q275 q276 q277 q278 q279 q280 q281 q282 q283 q284 q285 q286 q287 q288 q289 q290 q291 q292 q293 q294 q295 q296 q297 q298 q299 q300 q301 q302 q303 q304 q305 q306 q307 q308 q309 q310 q311 q312 q313 q314 q315 q316 q317 q318 q319 q320 q321:Value}:
  Code.wp Tryz.prog mtail29.1 (bodyPost Tryz.prog Tryz.f41 (fun e w'=>e = .returned (.tuple #[.int .i64 r1,.bool r2])∧∃ v',MkAt w' gm w0.heap.size c ⟨A1,c1,A2,c2,A3,c3,A4,c4⟩ t l' v'∧KeepM W v w' v' gm∧Below w0.heap.size w0 w')) { tmps:=List.toArray ((.pointer (some ⟨gm,0,none⟩))::q1::q2::q3::q4::q5::q6::q7::q8::(.bool bf)::q10::q11::(.int .i64 ((l.length:Int) + 1))::q13::q14::q15::(.int .i64 wk)::q17::q18::q19::q20::(.int .i64 y)::q22::q23::q24::q25::q26::q27::q28::q29::q30::q31::q32::q33::q34::q35::q36::q37::q38::q39::q40::q41::q42::q43::q44::q45::q46::q47::q48::q49::q50::q51::q52::q53::q54::q55::q56::q57::q58::q59::q60::q61::q62::q63::q64::q65::q66::q67::q68::q69::q70::q71::q72::q73::q74::q75::q76::q77::q78::q79::q80::q81::q82::q83::q84::q85::q86::q87::q88::q89::q90::q91::q92::q93::q94::q95::q96::q97::q98::q99::q100::q101::q102::q103::q104::q105::q106::q107::q108::q109::q110::q111::q112::q113::q114::q115::q116::q117::q118::q119::q120::q121::q122::q123::q124::q125::q126::q127::q128::q129::q130::q131::q132::q133::q134::q135::q136::q137::q138::q139::q140::q141::q142::q143::q144::q145::q146::q147::q148::q149::q150::q151::q152::q153::q154::q155::q156::q157::q158::q159::q160::q161::q162::q163::q164::q165::q166::q167::q168::q169::q170::q171::q172::q173::q174::q175::q176::q177::q178::q179::q180::q181::q182::q183::q184::q185::q186::q187::q188::q189::q190::q191::q192::q193::q194::q195::q196::q197::q198::q199::q200::q201::q202::q203::q204::q205::q206::q207::q208::q209::q210::q211::q212::q213::q214::q215::q216::q217::q218::q219::q220::q221::q222::q223::q224::q225::q226::q227::q228::q229::q230::q231::q232::q233::q234::q235::q236::q237::q238::q239::q240::q241::q242::q243::q244::q245::q246::q247::q248::q249::q250::q251::q252::q253::q254::q255::q256::q257::q258::q259::q260::q261::q262::q263::q264::q265::q266::q267::q268::q269::q270::q271::q272::q273::q274::q275::q276::q277::q278::q279::q280::q281::q282::q283::q284::q285::q286::q287::q288::q289::q290::q291::q292::q293::q294::q295::q296::q297::q298::q299::q300::q301::q302::q303::q304::q305::q306::q307::q308::q309::q310::q311::q312::q313::q314::q315::q316::q317::q318::q319::q320::q321::[]),defers:=[] } W0:=by
 dsimp only [mtail29]
 have s1:wk.tdiv 2 = wk / 2:=Int.tdiv_eq_ediv_of_nonneg hwk0
 have s2:IntKind.i64.wrap (y + wk) = y + wk:=IntWalk.i64_in _ (by omega)
 have s3:IntKind.i64.wrap (y + wk - wk / 2) = y + wk - wk / 2:=IntWalk.i64_in _ (by omega)
 go_upto_region 30 with fail
 clear s1 s2 s3
 obtain ⟨yy,hyy⟩:∃ yy:Int,yy = y + wk - wk / 2:=⟨_,rfl⟩
 rw [← hyy] at HA ⊢
 clear hyy
 go_cut [8] (fun s8 wz=>s8 = .int .i64 yy∧∃ v':Value,Aside0 (MkAt wz gm w0.heap.size c ⟨A1,c1,A2,c2,A3,c3,A4,c4⟩ t (setEnd L l.length yy bf) v')∧Aside0 (KeepM W v wz v' gm)∧Aside0 (Below w0.heap.size w0 wz))
 case first=>
  have m13:W0.cell? ⟨gm,13,none⟩ = some v4:=(blk_cell HM5.out.blk 13).trans rfl
  have z1:IntKind.i64.wrap ((l.length:Int) + 1 - 1) = (l.length:Int):=by rw [show (l.length:Int) + 1 - 1 = (l.length:Int) from by omega];exact IntWalk.i64_in _ (by omega)
  have z5:IntKind.i64.wrap (l.length:Int) = (l.length:Int):=IntWalk.i64_in _ (by omega)
  have z2:(0:Int) ≤ (l.length:Int):=by omega
  have z4:(l.length:Int) < (L.length:Int):=by omega
  refine start_ (n:=20) (S:=fun w'=>Below W0.heap.size W0 w') (ds:=[16,19]) (bz 20 0) (by kernel_rfl) rfl rfl (Below.refl _ _).drew (fun hHeld=>?_)
  refine with_tabW mkT.tab30 mkT.bits30 (fun HT_ HW_=>?_)
  generalize W0.drew = wd at hHeld ⊢
  have HX:=Aside0.mk (HM5.out.below hHeld)
  have HKX:=Aside0.mk (KeepM.of_below (v:=v4) (gm:=gm) hHeld)
  have HBX:=Aside0.mk (below_step HB5.out hHeld)
  obtain ⟨r,cp,ev,e1,e2,f1,f2,hbr,hgr⟩:=HX.out.opened l.length hz3
  subst ev
  refine pu_ 0 (some 302) (bz 20 1) HT_ rfl rfl ?_
  refine pu_ 1 (some 303) (bz 20 3) HT_ rfl rfl ?_
  refine pu_ 2 (some 304) (bz 20 7) HT_ rfl rfl ?_
  refine tk_ 3 (some 305) (bz 20 15) HT_ HW_ rfl rfl hHeld ?_ (by intro w' hS;replace m13:=below_at hS m13;go_simp;with_reducible rfl)
  refine pu_ 4 (some 306) (bz 20 31) HT_ rfl rfl ?_
  refine pu_ 5 (some 307) (bz 20 63) HT_ rfl rfl ?_
  refine pu_ 6 (some 308) (bz 20 127) HT_ rfl rfl ?_
  refine pu_ 7 (some 309) (bz 20 255) HT_ rfl rfl ?_
  refine pu_ 8 (some 310) (bz 20 511) HT_ rfl rfl ?_
  refine tk_ 9 (some 311) (bz 20 1023) HT_ HW_ rfl rfl hHeld ?_ (by intro w' hS;replace m13:=below_at hS m13;go_simp;with_reducible rfl)
  refine pu_ 10 (some 312) (bz 20 2047) HT_ rfl rfl ?_
  refine pu_ 11 (some 313) (bz 20 4095) HT_ rfl rfl ?_
  refine pu_ 12 (some 314) (bz 20 8191) HT_ rfl rfl ?_
  refine pu_ 13 (some 315) (bz 20 16383) HT_ rfl rfl ?_
  refine pu_ 14 (some 316) (bz 20 32767) HT_ rfl rfl ?_
  refine pu_ 15 (some 317) (bz 20 65535) HT_ rfl rfl ?_
  refine last_ (i:=16) (N:=none) (bz 20 131071) rfl rfl (one_of HT_.out (by kernel_rfl)) (by decide) (fun K hK=>?_)
  rw [if_pos (by rfl)]
  go_simp
  refine hK.out _ _ ?_
  clear hK K
  refine pu_ 17 (some 318) (bz 20 262143) HT_ rfl rfl ?_
  refine pu_ 18 (some 319) (bz 20 524287) HT_ rfl rfl ?_
  refine last_ (i:=19) (N:=none) (bz 20 1048575) rfl rfl (one_of HT_.out (by kernel_rfl)) (by decide) (fun K hK=>?_)
  rw [if_pos (by rfl)]
  go_simp
  refine hK.out _ _ ?_
  clear hK K
  refine done_ (done_of HT_.out (by kernel_rfl)) ?_
  go_wp2
  go_meet
  exact ⟨rfl,_,⟨MkAt.stores HX.out hgr l.length hz3 _ _⟩,⟨(HK6.out.trans HKX.out).trans (KeepM.stores _ _ _ _)⟩,⟨(HBX.out.setCell hbr _).setCell hbr _⟩⟩
 case rest=>
 obtain ⟨rfl,v7,HM7,HK7,HB7⟩:=hcut
 obtain ⟨k1,k2,k3⟩:=HA.out
 subst k1
 subst k2
 subst k3
 clear HA
 go_wp2_with fail
 go_returns
 exact ⟨by rfl,v7,HM7.out,HK7.out,HB7.out⟩
def mtail18:{ c:Code // tailFrom 18 (Tryz.f41.body.getD .skip) = some c }:=⟨_,by rfl⟩
set_option maxHeartbeats 8000000 in
set_option maxRecDepth 100000 in
theorem mserve_loop (w0:World) (gm gs:Nat) (c:Cfg) (A1:Option Addr) (c1:Nat) (A2:Option Addr) (c2:Nat) (A3:Option Addr) (c3:Nat) (A4:Option Addr) (c4:Nat) (t:Int) (s:S51) (A5:Option Addr) (c5:Nat) (slot:Int) (sm:List (ByteArray × SvV)) (n go:Nat) (ver:ByteArray) (parent x wk y0:Int) (b0:Bool) (l L0:List Sp) (r1:Int) (r2:Bool) (l':List Sp) (W WL:World) (v v3:Value) (z1:Int) (z2:Bool) (L2:List Sp)
  (hl:l.length < 1000) (hwk0:0 ≤ wk) (hwk1:wk ≤ 1099511627776) (hz1:0 ≤ z1) (hz2:z1 ≤ 1152921504606846976) (hz3:l.length < L2.length) (hd:0 ≤ c.delay) (hd1:c.delay ≤ 1048576) (hn5:s.f5.length ≤ 9223372036854775807) (hgm:w0.heap.size ≤ gm) (hgs:gs ≠ gm) (hgoM:go ≠ gm) (hgo3:some go ≠ v3.ownBlock)
  (HA:Aside0 (z1 + wk - wk / 2 = r1∧z2 = r2∧setEnd L2 l.length (z1 + wk - wk / 2) z2 = l'))
  (HC:Aside0 (callsV c.seed c.delay t ((l.length:Int) + 1) s ver (serveV c slot t sm n) s.f5 y0 b0 L0 = some (z1,z2,L2)))
  (HS5:Aside0 (∀ W',Below w0.heap.size w0 W'→Kd.C Kd.string W' A5 s.f5.length s.f5)) (HCF:Aside0 (∀ W',Below w0.heap.size w0 W'→CfgR W' ⟨A1,c1,A2,c2,A3,c3,A4,c4⟩ c)) (HM4:Aside0 (MkAt WL gm w0.heap.size c ⟨A1,c1,A2,c2,A3,c3,A4,c4⟩ t L0 v3)) (HK4:Aside0 (KeepM W v WL v3 gm)) (HB4:Aside0 (Below w0.heap.size w0 WL)) (HG4:Aside0 (WL.heap[gs]? = some (.cells (svCells s A5 c5) 51 (0,0)))) (HO4:Aside0 (WL.heap[go]? = some (.cells #[.int .i64 t,.int .i64 ((l.length:Int) + 1),.int .i64 parent,.int .i64 0,.int .i64 s.f1,.int .i64 3,.string s.f0,.string ver,.string strServe,.int .i64 x,.int .i64 0,.bool false,.slice none 0 0,.slice none 0 0] 74 (0,0))))
  (IH:Aside0 (∀ (i:Nat) (nm:ByteArray) (hi:i < s.f5.length) (hnm:s.f5[i] = nm) (parent x:Int) (l:List Sp) (r1:Int) (r2:Bool) (l':List Sp) (W:World) (v:Value),serveV c slot t sm n nm parent x l = some (r1,r2,l')→MkAt W gm w0.heap.size c ⟨A1,c1,A2,c2,A3,c3,A4,c4⟩ t l v→Below w0.heap.size w0 W→Calls Tryz.prog 41 #[.pointer (some ⟨gm,0,none⟩),.int .i64 (svIdx c.sv nm),.int .i64 parent,.int .i64 x] W fun e w'=>e = .returned (.tuple #[.int .i64 r1,.bool r2])∧∃ v',MkAt w' gm w0.heap.size c ⟨A1,c1,A2,c2,A3,c3,A4,c4⟩ t l' v'∧KeepM W v w' v' gm∧Below w0.heap.size w0 w')) {q1 q2 q3 q4 q5 q6 q7 q8 q11 q13 q14 q15 q17 q18 q19 q22 q23 q24 q25 q26 q27 q28 q29 q30 q31 q32 q33 q34 q35 q36 q37 q38 q39 q40 q41 q42 q43 q44 q45 q46 q47 q48 q49 q50 q51 q52 q53 q54 q55 q56 q57 q58 q59 q60 q61 q62 q63 q64 q65 q66 q67 q68 q69 q70 q71 q72 q73 q74 q75 q76 q77 q78 q79 q80 q81 q82 q83 q84 q85 q86 q87 q88 q89 q90 q91 q92 q93 q94 q95 q96 q97 q98 q99 q100 q101 q102 q103 q104 q105 q106 q107 q108 q109 q110 q111 q112 q113 q114 q115 q116 q117 q118 q119 q120 q121 q122 q123 q124 q125 q126 q127 q128 q129 q130 q131 q132 q133 q134 q135 q136 q137 q138 q139 q140 q141 q142 q143 q144 q145 q146 q147 q148 q149 q150 q151 q152 q153 q154 q155 q156 q157 q158 q159 q160 q161 q162 q163 q164 q165 q166 q167 q168 q169 q170 q171 q172 q173 q174 q175 q176 q177 q178 q179 q180 q181 q182 q183 q184 q185 q186 q187 q188 q189 q190 q191 q192 q193 q194 q195 q196 q197 q198 q199 q200 q201 q202 q203 q204 q205 q206 q207 q208 q209 q210 q211 q212 q213 q214 q215 q216 q217 q218 q219 q220 q221 q222 q223 q224 q225 q226 q227 q228 q229 q230 q231 q232 q233 q234 q235 q236 q237 q238 q239 q240 q241 q242 q243 q244 q245 q246 q247 q248 q249 q250 q251 q252 q253 q254 q255 q256 q257 q258 q259 q260 q261 q262 q263 q264 q265 q266 q267 q268 q269 q270 q271 q272 q273 q274 q275 q276 q277 q278 q279 q280 q281 q282 q283 q284 q285 q286 q287 q288 q289 q290 q291 q292 q293 q294 q295 q296 q297 q298 q299 q300 q301 q302 q303 q304 q305 q306 q307 q308 q309 q310 q311 q312 q313 q314 q315 q316 q317 q318 q319 q320 q321:Value}:
  Code.wp Tryz.prog mtail18.1 (bodyPost Tryz.prog Tryz.f41 (fun e w'=>e = .returned (.tuple #[.int .i64 r1,.bool r2])∧∃ v',MkAt w' gm w0.heap.size c ⟨A1,c1,A2,c2,A3,c3,A4,c4⟩ t l' v'∧KeepM W v w' v' gm∧Below w0.heap.size w0 w')) { tmps:=List.toArray ((.pointer (some ⟨gm,0,none⟩))::q1::q2::q3::q4::q5::q6::q7::q8::(.bool b0)::(.pointer (some ⟨gs,0,none⟩))::q11::(.int .i64 ((l.length:Int) + 1))::q13::q14::q15::(.int .i64 wk)::q17::q18::q19::(.pointer (some ⟨go,0,none⟩))::(.int .i64 y0)::q22::q23::q24::q25::q26::q27::q28::q29::q30::q31::q32::q33::q34::q35::q36::q37::q38::q39::q40::q41::q42::q43::q44::q45::q46::q47::q48::q49::q50::q51::q52::q53::q54::q55::q56::q57::q58::q59::q60::q61::q62::q63::q64::q65::q66::q67::q68::q69::q70::q71::q72::q73::q74::q75::q76::q77::q78::q79::q80::q81::q82::q83::q84::q85::q86::q87::q88::q89::q90::q91::q92::q93::q94::q95::q96::q97::q98::q99::q100::q101::q102::q103::q104::q105::q106::q107::q108::q109::q110::q111::q112::q113::q114::q115::q116::q117::q118::q119::q120::q121::q122::q123::q124::q125::q126::q127::q128::q129::q130::q131::q132::q133::q134::q135::q136::q137::q138::q139::q140::q141::q142::q143::q144::q145::q146::q147::q148::q149::q150::q151::q152::q153::q154::q155::q156::q157::q158::q159::q160::q161::q162::q163::q164::q165::q166::q167::q168::q169::q170::q171::q172::q173::q174::q175::q176::q177::q178::q179::q180::q181::q182::q183::q184::q185::q186::q187::q188::q189::q190::q191::q192::q193::q194::q195::q196::q197::q198::q199::q200::q201::q202::q203::q204::q205::q206::q207::q208::q209::q210::q211::q212::q213::q214::q215::q216::q217::q218::q219::q220::q221::q222::q223::q224::q225::q226::q227::q228::q229::q230::q231::q232::q233::q234::q235::q236::q237::q238::q239::q240::q241::q242::q243::q244::q245::q246::q247::q248::q249::q250::q251::q252::q253::q254::q255::q256::q257::q258::q259::q260::q261::q262::q263::q264::q265::q266::q267::q268::q269::q270::q271::q272::q273::q274::q275::q276::q277::q278::q279::q280::q281::q282::q283::q284::q285::q286::q287::q288::q289::q290::q291::q292::q293::q294::q295::q296::q297::q298::q299::q300::q301::q302::q303::q304::q305::q306::q307::q308::q309::q310::q311::q312::q313::q314::q315::q316::q317::q318::q319::q320::q321::[]),defers:=[] } WL:=by
 dsimp only [mtail18]
 go_upto_block 2 with fail
 have HKL:=Aside0.mk (KeepM.refl (W:=WL) (v:=v3) (gm:=gm))
 have HML:=Aside0.mk HM4.out
 go_cut [9,21] (fun s9 s21 wz=>s9 = .bool z2∧s21 = .int .i64 z1∧∃ v4:Value,Aside0 (MkAt wz gm w0.heap.size c ⟨A1,c1,A2,c2,A3,c3,A4,c4⟩ t L2 v4)∧Aside0 (KeepM W v wz v4 gm)∧Aside0 (Below w0.heap.size w0 wz))
 case first=>
  go_wp2_with fail
  go_loopg [9,21,22] s.f5.length (fun gg s9 s21 s22 wr=>∃ (i:Nat) (y:Int) (bf:Bool) (L:List Sp) (v4:Value),i ≤ s.f5.length∧s.f5.length - i ≤ gg∧s22 = .int .i64 (i:Int)∧s21 = .int .i64 y∧s9 = .bool bf∧Aside0 (callsV c.seed c.delay t ((l.length:Int) + 1) s ver (serveV c slot t sm n) (s.f5.drop i) y bf L = some (z1,z2,L2))∧Aside0 (MkAt wr gm w0.heap.size c ⟨A1,c1,A2,c2,A3,c3,A4,c4⟩ t L v4)∧Aside0 (KeepM WL v3 wr v4 gm)∧Aside0 (Below w0.heap.size w0 wr))
  case atStart=>exact ⟨0,y0,b0,_,v3,by omega,by omega,by rfl,by rfl,by rfl,⟨by have:=HC.out;simpa using this⟩,HML,HKL,HB4⟩
  case round=>
  clear HC HML HKL HB4
  obtain ⟨i,y,bf,L,v4,hi,hgi,rfl,rfl,rfl,HC,HM5,HK5,HB5⟩:=hrel
  have HG5:=Aside0.mk (HK5.out.other HM4.out HG4.out hgs (by decide))
  have HO5:=Aside0.mk (HK5.out.keep HO4.out hgoM hgo3)
  have g5:wr.cell? ⟨gs,5,none⟩ = some (.slice A5 s.f5.length c5):=(blk_cell HG5.out 5).trans rfl
  by_cases hlt:i < s.f5.length
  ·have g0:decide ((i:Int) < (s.f5.length:Int)) = true:=by simpa using hlt
   have hC:=HC.out
   clear HC
   rw [List.drop_eq_getElem_cons hlt] at hC
   obtain ⟨ad5,e5,_⟩:=string_at (HS5.out _ HB5.out) i hlt
   subst e5
   have HE5:Aside0 (∀ W',Below w0.heap.size w0 W'→W'.cell? (ad5.add i) = some (.string s.f5[i])):=⟨fun W' hb=>by
    obtain ⟨ad6,e6,h6⟩:=string_at (HS5.out _ hb) i hlt
    injection e6 with e6
    rw [e6];exact h6⟩
   obtain ⟨nm,hnm⟩:∃ nm,nm = s.f5[i]:=⟨_,rfl⟩
   have HNM:=Aside0.mk hnm
   rw [← hnm] at hC HE5
   clear hnm
   unfold callsV at hC
   by_cases hgd:L.length < 1000∧0 ≤ y∧y ≤ BIG
   case neg=>rw [if_neg hgd] at hC;cases hC
   rw [if_pos hgd] at hC
   obtain ⟨q',hrec,hC⟩:=Option.bind_eq_some_iff.mp hC
   obtain ⟨v1,v2,L3⟩:=q'
   dsimp only at hC
   by_cases hgd2:0 ≤ v1∧v1 ≤ BIG∧L.length < L3.length
   case neg=>rw [if_neg hgd2] at hC;cases hC
   rw [if_pos hgd2] at hC
   obtain ⟨hL0,hy0,hy1⟩:=hgd
   obtain ⟨hv0,hv1,hL3⟩:=hgd2
   unfold BIG at hy1 hv1
   have HC:=Aside0.mk hC
   have IH2:Aside0 (∀ W' v',MkAt W' gm w0.heap.size c ⟨A1,c1,A2,c2,A3,c3,A4,c4⟩ t (L ++ [⟨t,(L.length:Int) + 1,(l.length:Int) + 1,0,s.f1,2,s.f0,ver,strCall,y,0,false⟩]) v'→Below w0.heap.size w0 W'→Calls Tryz.prog 41 #[.pointer (some ⟨gm,0,none⟩),.int .i64 (svIdx c.sv nm),.int .i64 ((L.length:Int) + 1),.int .i64 (y + c.delay + rollV c.seed t ((L.length:Int) + 1) 2 % (c.delay + 1))] W' fun e w'=>e = .returned (.tuple #[.int .i64 v1,.bool v2])∧∃ v'',MkAt w' gm w0.heap.size c ⟨A1,c1,A2,c2,A3,c3,A4,c4⟩ t L3 v''∧KeepM W' v' w' v'' gm∧Below w0.heap.size w0 w'):=⟨fun W' v' hm hb=>IH.out i nm hlt HNM.out.symm _ _ _ _ _ _ W' v' hrec hm hb⟩
   clear hC hrec
   go_upto_block 3 with fail
   go_cut [9,21] (fun s9 s21 wz=>s21 = .int .i64 (v1 + c.delay + rollV c.seed t ((L.length:Int) + 1) 3 % (c.delay + 1))∧s9 = .bool (bf || v2)∧∃ v':Value,Aside0 (MkAt wz gm w0.heap.size c ⟨A1,c1,A2,c2,A3,c3,A4,c4⟩ t (setEnd L3 L.length (v1 + c.delay + rollV c.seed t ((L.length:Int) + 1) 3 % (c.delay + 1)) v2) v')∧Aside0 (KeepM wr v4 wz v' gm)∧Aside0 (Below w0.heap.size w0 wz))
   case first=>
    refine mserve_body w0 gm gs go c A1 c1 A2 c2 A3 c3 A4 c4 t s ad5 c5 ver ((l.length:Int) + 1) parent x y i bf L L3 v4 nm v1 v2 wr hL0 hy0 hy1 hv0 hv1 hL3 hd hd1 hlt hn5 hgm HE5 HCF HM5 HB5 HG5 HO5 hgs IH2 _ (fun _ _ N _ _ h=>by cases N <;> exact h) _ ⟨fun h=>?_⟩
    go_step
    go_meet
    exact h
   case rest=>
   obtain ⟨rfl,rfl,v6,HM6,HK6,HB6⟩:=hcut
   clear HM5 HB5 HG5 HO5 IH2 HE5 g5
   go_wp2_with fail
   go_roundg (s.f5.length - (i + 1))
   case measure=>omega
   case rel=>exact ⟨i + 1,_,_,_,v6,by omega,Nat.le_refl _,by first | rfl | go_num,rfl,rfl,HC,HM6,⟨HK5.out.trans HK6.out⟩,HB6⟩
  ·have g0:decide ((i:Int) < (s.f5.length:Int)) = false:=by simp;omega
   obtain rfl:i = s.f5.length:=by omega
   have hC:=HC.out
   rw [List.drop_length,callsV] at hC
   injection hC with hC
   injection hC with hC1 hC
   injection hC with hC2 hC3
   subst hC1
   subst hC2
   subst hC3
   have HK6:=Aside0.mk (HK4.out.trans HK5.out)
   clear HC HM4 HK4 HG4 HO4 HK5 HG5 HO5 IH hi hgi hlt
   go_wp2
   go_meet
   exact ⟨rfl,rfl,v4,HM5,HK6,HB5⟩
 case rest=>
 clear HM4 HK4 HB4 HG4 HO4 HKL HML HC IH
 obtain ⟨rfl,rfl,v4,HM5,HK6,HB5⟩:=hcut
 rename_i hK
 exact hK _ _ (mserve_end w0 gm c A1 c1 A2 c2 A3 c3 A4 c4 t z1 wk z2 l L2 r1 r2 l' W _ v v4 hl hwk0 hwk1 hz1 hz2 hz3 HA HM5 HK6 HB5)
def mkT.T16:Bool × List (List Nat × List Nat):=(true,[([],[]),([0],[0]),([1],[1]),([2],[2]),([],[]),([4],[4]),([5],[5]),([6],[6]),([],[]),([3,7,8],[3,7,8]),([9],[9]),([],[]),([10,11],[10,11]),([12,9,0,1,2,3,4,5,6,7,8,9,10,11,12],[12])])
def mkT.B16:List Nat:=[0,1,3,7,0,16,48,112,0,511,1023,0,4095,8191]
theorem mkT.tab16:rtab .any (opsOf Tryz.f41 16) = mkT.T16:=by kernel_rfl
theorem mkT.bits16:waitsOk mkT.T16.2 mkT.B16 = true:=by kernel_rfl
def mtail16:{ c:Code // tailFrom 16 (Tryz.f41.body.getD .skip) = some c }:=⟨_,by rfl⟩
set_option maxHeartbeats 8000000 in
set_option maxRecDepth 100000 in
theorem mserve_tail16 (w0:World) (gm gs:Nat) (c:Cfg) (A1:Option Addr) (c1:Nat) (A2:Option Addr) (c2:Nat) (A3:Option Addr) (c3:Nat) (A4:Option Addr) (c4:Nat) (t:Int) (s:S51) (A5:Option Addr) (c5:Nat) (slot:Int) (sm:List (ByteArray × SvV)) (n go:Nat) (ver:ByteArray) (parent x wk fk:Int) (l:List Sp) (r1:Int) (r2:Bool) (l':List Sp) (W W0:World) (v v3:Value) (z1:Int) (z2:Bool) (L2:List Sp)
  (hl:l.length < 1000) (hx0:0 ≤ x) (hx1:x ≤ 1152921504606846976) (hwk0:0 ≤ wk) (hwk1:wk ≤ 1099511627776) (hz1:0 ≤ z1) (hz2:z1 ≤ 1152921504606846976) (hz3:l.length < L2.length) (hd:0 ≤ c.delay) (hd1:c.delay ≤ 1048576) (hn5:s.f5.length ≤ 9223372036854775807) (hgm:w0.heap.size ≤ gm) (hgs:gs ≠ gm) (hgoM:go ≠ gm) (hgo3:some go ≠ v3.ownBlock)
  (HA:Aside0 (z1 + wk - wk / 2 = r1∧z2 = r2∧setEnd L2 l.length (z1 + wk - wk / 2) z2 = l'))
  (HC:Aside0 (callsV c.seed c.delay t ((l.length:Int) + 1) s ver (serveV c slot t sm n) s.f5 (x + wk / 2) (decide (rollV c.seed t ((l.length:Int) + 1) 4 % 1000000 < fk)) (l ++ [⟨t,(l.length:Int) + 1,parent,0,s.f1,3,s.f0,ver,strServe,x,0,false⟩]) = some (z1,z2,L2)))
  (HS5:Aside0 (∀ W',Below w0.heap.size w0 W'→Kd.C Kd.string W' A5 s.f5.length s.f5)) (HCF:Aside0 (∀ W',Below w0.heap.size w0 W'→CfgR W' ⟨A1,c1,A2,c2,A3,c3,A4,c4⟩ c)) (HM:Aside0 (MkAt W0 gm w0.heap.size c ⟨A1,c1,A2,c2,A3,c3,A4,c4⟩ t (l ++ [⟨t,(l.length:Int) + 1,parent,0,s.f1,3,s.f0,ver,strServe,x,0,false⟩]) v3)) (HK:Aside0 (KeepM W v W0 v3 gm)) (HB:Aside0 (Below w0.heap.size w0 W0)) (HG:Aside0 (W0.heap[gs]? = some (.cells (svCells s A5 c5) 51 (0,0)))) (HO:Aside0 (W0.heap[go]? = some (.cells #[.int .i64 t,.int .i64 ((l.length:Int) + 1),.int .i64 parent,.int .i64 0,.int .i64 s.f1,.int .i64 3,.string s.f0,.string ver,.string strServe,.int .i64 x,.int .i64 0,.bool false,.slice none 0 0,.slice none 0 0] 74 (0,0))))
  (IH:Aside0 (∀ (i:Nat) (nm:ByteArray) (hi:i < s.f5.length) (hnm:s.f5[i] = nm) (parent x:Int) (l:List Sp) (r1:Int) (r2:Bool) (l':List Sp) (W:World) (v:Value),serveV c slot t sm n nm parent x l = some (r1,r2,l')→MkAt W gm w0.heap.size c ⟨A1,c1,A2,c2,A3,c3,A4,c4⟩ t l v→Below w0.heap.size w0 W→Calls Tryz.prog 41 #[.pointer (some ⟨gm,0,none⟩),.int .i64 (svIdx c.sv nm),.int .i64 parent,.int .i64 x] W fun e w'=>e = .returned (.tuple #[.int .i64 r1,.bool r2])∧∃ v',MkAt w' gm w0.heap.size c ⟨A1,c1,A2,c2,A3,c3,A4,c4⟩ t l' v'∧KeepM W v w' v' gm∧Below w0.heap.size w0 w')) {q1 q2 q4 q5 q6 q7 q8 q9 q11 q13 q14 q15 q18 q19 q21 q22 q23 q24 q25 q26 q27 q28 q29 q30 q31 q32 q33 q34 q35 q36 q37 q38 q39 q40 q41 q42 q43 q44 q45 q46 q47 q48 q49 q50 q51 q52 q53 q54 q55 q56 q57 q58 q59 q60 q61 q62 q63 q64 q65 q66 q67 q68 q69 q70 q71 q72 q73 q74 q75 q76 q77 q78 q79 q80 q81 q82 q83 q84 q85 q86 q87 q88 q89 q90 q91 q92 q93 q94 q95 q96 q97 q98 q99 q100 q101 q102 q103 q104 q105 q106 q107 q108 q109 q110 q111 q112 q113 q114 q115 q116 q117 q118 q119 q120 q121 q122 q123 q124 q125 q126 q127 q128 q129 q130 q131 q132 q133 q134 q135 q136 q137 q138 q139 q140 q141 q142 q143 q144 q145 q146 q147 q148 q149 q150 q151 q152 q153 q154 q155 q156 q157 q158 q159 q160 q161 q162 q163 q164 q165 q166 q167 q168 q169 q170 q171 q172 q173 q174 q175 q176 q177 q178 q179 q180 q181 q182 q183 q184 q185 q186 q187 q188 q189 q190 q191 q192 q193 q194 q195 q196 q197 q198 q199 q200 q201 q202 q203 q204 q205 q206 q207 q208 q209 q210 q211 q212 q213 q214 q215 q216 q217 q218 q219 q220 q221 q222 q223 q224 q225 q226 q227 q228 q229 q230 q231 q232 q233 q234 q235 q236 q237 q238 q239 q240 q241 q242 q243 q244 q245 q246 q247 q248 q249 q250 q251 q252 q253 q254 q255 q256 q257 q258 q259 q260 q261 q262 q263 q264 q265 q266 q267 q268 q269 q270 q271 q272 q273 q274 q275 q276 q277 q278 q279 q280 q281 q282 q283 q284 q285 q286 q287 q288 q289 q290 q291 q292 q293 q294 q295 q296 q297 q298 q299 q300 q301 q302 q303 q304 q305 q306 q307 q308 q309 q310 q311 q312 q313 q314 q315 q316 q317 q318 q319 q320 q321:Value}:
  Code.wp Tryz.prog mtail16.1 (bodyPost Tryz.prog Tryz.f41 (fun e w'=>e = .returned (.tuple #[.int .i64 r1,.bool r2])∧∃ v',MkAt w' gm w0.heap.size c ⟨A1,c1,A2,c2,A3,c3,A4,c4⟩ t l' v'∧KeepM W v w' v' gm∧Below w0.heap.size w0 w')) { tmps:=List.toArray ((.pointer (some ⟨gm,0,none⟩))::q1::q2::(.int .i64 x)::q4::q5::q6::q7::q8::q9::(.pointer (some ⟨gs,0,none⟩))::q11::(.int .i64 ((l.length:Int) + 1))::q13::q14::q15::(.int .i64 wk)::(.int .i64 fk)::q18::q19::(.pointer (some ⟨go,0,none⟩))::q21::q22::q23::q24::q25::q26::q27::q28::q29::q30::q31::q32::q33::q34::q35::q36::q37::q38::q39::q40::q41::q42::q43::q44::q45::q46::q47::q48::q49::q50::q51::q52::q53::q54::q55::q56::q57::q58::q59::q60::q61::q62::q63::q64::q65::q66::q67::q68::q69::q70::q71::q72::q73::q74::q75::q76::q77::q78::q79::q80::q81::q82::q83::q84::q85::q86::q87::q88::q89::q90::q91::q92::q93::q94::q95::q96::q97::q98::q99::q100::q101::q102::q103::q104::q105::q106::q107::q108::q109::q110::q111::q112::q113::q114::q115::q116::q117::q118::q119::q120::q121::q122::q123::q124::q125::q126::q127::q128::q129::q130::q131::q132::q133::q134::q135::q136::q137::q138::q139::q140::q141::q142::q143::q144::q145::q146::q147::q148::q149::q150::q151::q152::q153::q154::q155::q156::q157::q158::q159::q160::q161::q162::q163::q164::q165::q166::q167::q168::q169::q170::q171::q172::q173::q174::q175::q176::q177::q178::q179::q180::q181::q182::q183::q184::q185::q186::q187::q188::q189::q190::q191::q192::q193::q194::q195::q196::q197::q198::q199::q200::q201::q202::q203::q204::q205::q206::q207::q208::q209::q210::q211::q212::q213::q214::q215::q216::q217::q218::q219::q220::q221::q222::q223::q224::q225::q226::q227::q228::q229::q230::q231::q232::q233::q234::q235::q236::q237::q238::q239::q240::q241::q242::q243::q244::q245::q246::q247::q248::q249::q250::q251::q252::q253::q254::q255::q256::q257::q258::q259::q260::q261::q262::q263::q264::q265::q266::q267::q268::q269::q270::q271::q272::q273::q274::q275::q276::q277::q278::q279::q280::q281::q282::q283::q284::q285::q286::q287::q288::q289::q290::q291::q292::q293::q294::q295::q296::q297::q298::q299::q300::q301::q302::q303::q304::q305::q306::q307::q308::q309::q310::q311::q312::q313::q314::q315::q316::q317::q318::q319::q320::q321::[]),defers:=[] } W0:=by
 dsimp only [mtail16]
 go_upto_region 16 with fail
 go_cut [9] (fun s9 wz=>s9 = .bool (decide (rollV c.seed t ((l.length:Int) + 1) 4 % 1000000 < fk))∧Aside0 (Below W0.heap.size W0 wz))
 case first=>
  have m0:W0.cell? ⟨gm,0,none⟩ = some (.int .i64 c.seed):=(blk_cell HM.out.blk 0).trans rfl
  have m1:W0.cell? ⟨gm,1,none⟩ = some (.slice A1 c.sv.length c1):=(blk_cell HM.out.blk 1).trans rfl
  have m2:W0.cell? ⟨gm,2,none⟩ = some (.slice A2 c.off.length c2):=(blk_cell HM.out.blk 2).trans rfl
  have m3:W0.cell? ⟨gm,3,none⟩ = some (.slice A3 c.ch.length c3):=(blk_cell HM.out.blk 3).trans rfl
  have m4:W0.cell? ⟨gm,4,none⟩ = some (.slice A4 c.fl.length c4):=(blk_cell HM.out.blk 4).trans rfl
  have m5:W0.cell? ⟨gm,5,none⟩ = some (.int .i64 c.sfrom):=(blk_cell HM.out.blk 5).trans rfl
  have m6:W0.cell? ⟨gm,6,none⟩ = some (.int .i64 c.sto):=(blk_cell HM.out.blk 6).trans rfl
  have m7:W0.cell? ⟨gm,7,none⟩ = some (.int .i64 c.per):=(blk_cell HM.out.blk 7).trans rfl
  have m8:W0.cell? ⟨gm,8,none⟩ = some (.int .i64 c.delay):=(blk_cell HM.out.blk 8).trans rfl
  have m9:W0.cell? ⟨gm,9,none⟩ = some (.int .i64 c.chunk):=(blk_cell HM.out.blk 9).trans rfl
  have m10:W0.cell? ⟨gm,10,none⟩ = some (.int .i64 c.loss):=(blk_cell HM.out.blk 10).trans rfl
  have m11:W0.cell? ⟨gm,11,none⟩ = some (.int .i64 c.rep):=(blk_cell HM.out.blk 11).trans rfl
  have m12:W0.cell? ⟨gm,12,none⟩ = some (.int .i64 t):=(blk_cell HM.out.blk 12).trans rfl
  have s1:(rollV c.seed t ((l.length:Int) + 1) 4).tmod 1000000 = rollV c.seed t ((l.length:Int) + 1) 4 % 1000000:=roll_tmod _ _ _ _ _
  refine start_ (n:=14) (S:=fun w'=>Below W0.heap.size W0 w') (ds:=[]) (bz 14 0) (by kernel_rfl) rfl rfl (Below.refl _ _).drew (fun hHeld=>?_)
  refine with_tabW mkT.tab16 mkT.bits16 (fun HT_ HW_=>?_)
  generalize W0.drew = wd at hHeld ⊢
  refine pu_ 0 (some 159) (bz 14 1) HT_ rfl rfl ?_
  refine pu_ 1 (some 160) (bz 14 3) HT_ rfl rfl ?_
  refine pu_ 2 (some 161) (bz 14 7) HT_ rfl rfl ?_
  refine tk_ 3 (some 162) (bz 14 15) HT_ HW_ rfl rfl hHeld ?_ (by intro w' hS;replace m0:=below_at hS m0;replace m1:=below_at hS m1;replace m2:=below_at hS m2;replace m3:=below_at hS m3;replace m4:=below_at hS m4;replace m5:=below_at hS m5;replace m6:=below_at hS m6;replace m7:=below_at hS m7;replace m8:=below_at hS m8;replace m9:=below_at hS m9;replace m10:=below_at hS m10;replace m11:=below_at hS m11;go_simp;with_reducible rfl)
  refine pu_ 4 (some 163) (bz 14 31) HT_ rfl rfl ?_
  refine pu_ 5 (some 164) (bz 14 63) HT_ rfl rfl ?_
  refine pu_ 6 (some 165) (bz 14 127) HT_ rfl rfl ?_
  refine tk_ 7 (some 166) (bz 14 255) HT_ HW_ rfl rfl hHeld ?_ (by intro w' hS;replace m12:=below_at hS m12;go_simp;with_reducible rfl)
  refine pu_ 8 (some 167) (bz 14 511) HT_ rfl rfl ?_
  refine pu_ 11 (some 170) (bz 14 2559) HT_ rfl rfl ?_
  refine one_ (i:=9) (N:=some 168) (bz 14 3071) rfl rfl (one_of HT_.out (by kernel_rfl)) (by decide) (fun K hK=>?_)
  refine goes_ Tryz.func27 (by kernel_rfl) rfl #[c.val ⟨A1,c1,A2,c2,A3,c3,A4,c4⟩,.int .i64 t,.int .i64 ((l.length:Int) + 1),.int .i64 4] (by rfl) rfl rfl (by (try simp only [List.map_toArray,List.map_cons,List.map_nil]);first | done | rfl) ?_
  with_reducible refine (mroll_calls c ⟨A1,c1,A2,c2,A3,c3,A4,c4⟩ t ((l.length:Int) + 1) 4 _ (HCF.out _ (below_step HB.out hHeld))).mono ?_
  rintro e wx ⟨rfl,hb⟩
  refine ⟨_,rfl,?_⟩
  replace hHeld:=below_step hHeld hb
  clear hb
  refine hK.out _ _ hHeld (fun hHeld=>?_)
  clear hK K
  refine norm_ (a':=?_) ?_ ?_
  rotate_left
  ·show Act.put _ (some 168) _ = _
   simp only [Act.put,List.setIfInBounds_toArray,List.set_cons_zero,List.set_cons_succ,i64_w,i32_w]
   rfl
  refine pu_ 10 (some 169) (bz 14 4095) HT_ rfl rfl ?_
  refine pu_ 12 (some 171) (bz 14 8191) HT_ rfl rfl ?_
  refine pu_ 13 (some 9) (bz 14 16383) HT_ rfl rfl ?_
  refine done_ (done_of HT_.out (by kernel_rfl)) ?_
  go_wp2
  go_meet
  exact ⟨rfl,⟨hHeld⟩⟩
 case rest=>
 obtain ⟨rfl,HB4_⟩:=hcut
 have s2:wk.tdiv 2 = wk / 2:=Int.tdiv_eq_ediv_of_nonneg hwk0
 have s3:IntKind.i64.wrap (x + wk / 2) = x + wk / 2:=IntWalk.i64_in _ (by omega)
 go_upto_region 17 with fail
 obtain ⟨WL,hWL⟩:∃ W:World,W = wc:=⟨_,rfl⟩
 subst hWL
 go_cut [21] (fun s21 wz=>s21 = .int .i64 (x + wk / 2)∧Aside0 (wz = WL))
 case first=>
  go_wp2
  go_meet
  exact ⟨rfl,⟨rfl⟩⟩
 case rest=>
 obtain ⟨rfl,hw⟩:=hcut
 have hw2:WL = wc:=hw.out.symm
 rename_i hK
 refine hK _ _ ?_
 rw [← hw2]
 exact mserve_loop w0 gm gs c A1 c1 A2 c2 A3 c3 A4 c4 t s A5 c5 slot sm n go ver parent x wk (x + wk / 2) (decide (rollV c.seed t ((l.length:Int) + 1) 4 % 1000000 < fk)) l _ r1 r2 l' W WL v v3 z1 z2 L2 hl hwk0 hwk1 hz1 hz2 hz3 hd hd1 hn5 hgm hgs hgoM hgo3 HA HC HS5 HCF ⟨HM.out.below HB4_.out⟩ ⟨HK.out.trans (KeepM.of_below HB4_.out)⟩ ⟨below_step HB.out HB4_.out⟩ ⟨blk_below HG.out HB4_.out⟩ ⟨blk_below HO.out HB4_.out⟩ IH
def mkT.T15:Bool × List (List Nat × List Nat):=(true,[([],[]),([],[]),([1],[1]),([2],[2]),([3],[3]),([],[]),([5],[5]),([4,6],[4,6]),([0,0,1,2,3,4,5,6,7],[0]),([8,0,1,2,3,4,5,6,7],[8]),([9,7,7,0,1,2,3,4,5,6,7],[7,9])])
def mkT.B15:List Nat:=[0,0,2,6,14,0,32,126,255,511,1023]
theorem mkT.tab15:rtab .any (opsOf Tryz.f41 15) = mkT.T15:=by kernel_rfl
theorem mkT.bits15:waitsOk mkT.T15.2 mkT.B15 = true:=by kernel_rfl
def mtail15:{ c:Code // tailFrom 15 (Tryz.f41.body.getD .skip) = some c }:=⟨_,by rfl⟩
set_option maxHeartbeats 8000000 in
set_option maxRecDepth 100000 in
theorem mserve_tail15 (w0:World) (gm gs:Nat) (c:Cfg) (A1:Option Addr) (c1:Nat) (A2:Option Addr) (c2:Nat) (A3:Option Addr) (c3:Nat) (A4:Option Addr) (c4:Nat) (t:Int) (s:S51) (A5:Option Addr) (c5:Nat) (slot:Int) (sm:List (ByteArray × SvV)) (n go:Nat) (ver:ByteArray) (parent x wk fk:Int) (l:List Sp) (r1:Int) (r2:Bool) (l':List Sp) (W W0:World) (v:Value) (z1:Int) (z2:Bool) (L2:List Sp)
  (hl:l.length < 1000) (hx0:0 ≤ x) (hx1:x ≤ 1152921504606846976) (hwk0:0 ≤ wk) (hwk1:wk ≤ 1099511627776) (hz1:0 ≤ z1) (hz2:z1 ≤ 1152921504606846976) (hz3:l.length < L2.length) (hd:0 ≤ c.delay) (hd1:c.delay ≤ 1048576) (hn5:s.f5.length ≤ 9223372036854775807) (hgm:w0.heap.size ≤ gm) (hgs:gs ≠ gm) (hgoM:go ≠ gm) (hgoV:some go ≠ v.ownBlock)
  (HA:Aside0 (z1 + wk - wk / 2 = r1∧z2 = r2∧setEnd L2 l.length (z1 + wk - wk / 2) z2 = l'))
  (HC:Aside0 (callsV c.seed c.delay t ((l.length:Int) + 1) s ver (serveV c slot t sm n) s.f5 (x + wk / 2) (decide (rollV c.seed t ((l.length:Int) + 1) 4 % 1000000 < fk)) (l ++ [⟨t,(l.length:Int) + 1,parent,0,s.f1,3,s.f0,ver,strServe,x,0,false⟩]) = some (z1,z2,L2)))
  (HS5:Aside0 (∀ W',Below w0.heap.size w0 W'→Kd.C Kd.string W' A5 s.f5.length s.f5)) (HCF:Aside0 (∀ W',Below w0.heap.size w0 W'→CfgR W' ⟨A1,c1,A2,c2,A3,c3,A4,c4⟩ c)) (HM:Aside0 (MkAt W0 gm w0.heap.size c ⟨A1,c1,A2,c2,A3,c3,A4,c4⟩ t l v)) (HK:Aside0 (KeepM W v W0 v gm)) (HB:Aside0 (Below w0.heap.size w0 W0)) (HG:Aside0 (W0.heap[gs]? = some (.cells (svCells s A5 c5) 51 (0,0)))) (HO:Aside0 (W0.heap[go]? = some (.cells #[.int .i64 t,.int .i64 ((l.length:Int) + 1),.int .i64 parent,.int .i64 0,.int .i64 s.f1,.int .i64 3,.string s.f0,.string ver,.string strServe,.int .i64 x,.int .i64 0,.bool false,.slice none 0 0,.slice none 0 0] 74 (0,0))))
  (IH:Aside0 (∀ (i:Nat) (nm:ByteArray) (hi:i < s.f5.length) (hnm:s.f5[i] = nm) (parent x:Int) (l:List Sp) (r1:Int) (r2:Bool) (l':List Sp) (W:World) (v:Value),serveV c slot t sm n nm parent x l = some (r1,r2,l')→MkAt W gm w0.heap.size c ⟨A1,c1,A2,c2,A3,c3,A4,c4⟩ t l v→Below w0.heap.size w0 W→Calls Tryz.prog 41 #[.pointer (some ⟨gm,0,none⟩),.int .i64 (svIdx c.sv nm),.int .i64 parent,.int .i64 x] W fun e w'=>e = .returned (.tuple #[.int .i64 r1,.bool r2])∧∃ v',MkAt w' gm w0.heap.size c ⟨A1,c1,A2,c2,A3,c3,A4,c4⟩ t l' v'∧KeepM W v w' v' gm∧Below w0.heap.size w0 w')) {q1 q2 q4 q5 q6 q7 q8 q9 q11 q13 q14 q15 q18 q19 q21 q22 q23 q24 q25 q26 q27 q28 q29 q30 q31 q32 q33 q34 q35 q36 q37 q38 q39 q40 q41 q42 q43 q44 q45 q46 q47 q48 q49 q50 q51 q52 q53 q54 q55 q56 q57 q58 q59 q60 q61 q62 q63 q64 q65 q66 q67 q68 q69 q70 q71 q72 q73 q74 q75 q76 q77 q78 q79 q80 q81 q82 q83 q84 q85 q86 q87 q88 q89 q90 q91 q92 q93 q94 q95 q96 q97 q98 q99 q100 q101 q102 q103 q104 q105 q106 q107 q108 q109 q110 q111 q112 q113 q114 q115 q116 q117 q118 q119 q120 q121 q122 q123 q124 q125 q126 q127 q128 q129 q130 q131 q132 q133 q134 q135 q136 q137 q138 q139 q140 q141 q142 q143 q144 q145 q146 q147 q148 q149 q150 q151 q152 q153 q154 q155 q156 q157 q158 q159 q160 q161 q162 q163 q164 q165 q166 q167 q168 q169 q170 q171 q172 q173 q174 q175 q176 q177 q178 q179 q180 q181 q182 q183 q184 q185 q186 q187 q188 q189 q190 q191 q192 q193 q194 q195 q196 q197 q198 q199 q200 q201 q202 q203 q204 q205 q206 q207 q208 q209 q210 q211 q212 q213 q214 q215 q216 q217 q218 q219 q220 q221 q222 q223 q224 q225 q226 q227 q228 q229 q230 q231 q232 q233 q234 q235 q236 q237 q238 q239 q240 q241 q242 q243 q244 q245 q246 q247 q248 q249 q250 q251 q252 q253 q254 q255 q256 q257 q258 q259 q260 q261 q262 q263 q264 q265 q266 q267 q268 q269 q270 q271 q272 q273 q274 q275 q276 q277 q278 q279 q280 q281 q282 q283 q284 q285 q286 q287 q288 q289 q290 q291 q292 q293 q294 q295 q296 q297 q298 q299 q300 q301 q302 q303 q304 q305 q306 q307 q308 q309 q310 q311 q312 q313 q314 q315 q316 q317 q318 q319 q320 q321:Value}:
  Code.wp Tryz.prog mtail15.1 (bodyPost Tryz.prog Tryz.f41 (fun e w'=>e = .returned (.tuple #[.int .i64 r1,.bool r2])∧∃ v',MkAt w' gm w0.heap.size c ⟨A1,c1,A2,c2,A3,c3,A4,c4⟩ t l' v'∧KeepM W v w' v' gm∧Below w0.heap.size w0 w')) { tmps:=List.toArray ((.pointer (some ⟨gm,0,none⟩))::q1::q2::(.int .i64 x)::q4::q5::q6::q7::q8::q9::(.pointer (some ⟨gs,0,none⟩))::q11::(.int .i64 ((l.length:Int) + 1))::q13::q14::q15::(.int .i64 wk)::(.int .i64 fk)::q18::q19::(.pointer (some ⟨go,0,none⟩))::q21::q22::q23::q24::q25::q26::q27::q28::q29::q30::q31::q32::q33::q34::q35::q36::q37::q38::q39::q40::q41::q42::q43::q44::q45::q46::q47::q48::q49::q50::q51::q52::q53::q54::q55::q56::q57::q58::q59::q60::q61::q62::q63::q64::q65::q66::q67::q68::q69::q70::q71::q72::q73::q74::q75::q76::q77::q78::q79::q80::q81::q82::q83::q84::q85::q86::q87::q88::q89::q90::q91::q92::q93::q94::q95::q96::q97::q98::q99::q100::q101::q102::q103::q104::q105::q106::q107::q108::q109::q110::q111::q112::q113::q114::q115::q116::q117::q118::q119::q120::q121::q122::q123::q124::q125::q126::q127::q128::q129::q130::q131::q132::q133::q134::q135::q136::q137::q138::q139::q140::q141::q142::q143::q144::q145::q146::q147::q148::q149::q150::q151::q152::q153::q154::q155::q156::q157::q158::q159::q160::q161::q162::q163::q164::q165::q166::q167::q168::q169::q170::q171::q172::q173::q174::q175::q176::q177::q178::q179::q180::q181::q182::q183::q184::q185::q186::q187::q188::q189::q190::q191::q192::q193::q194::q195::q196::q197::q198::q199::q200::q201::q202::q203::q204::q205::q206::q207::q208::q209::q210::q211::q212::q213::q214::q215::q216::q217::q218::q219::q220::q221::q222::q223::q224::q225::q226::q227::q228::q229::q230::q231::q232::q233::q234::q235::q236::q237::q238::q239::q240::q241::q242::q243::q244::q245::q246::q247::q248::q249::q250::q251::q252::q253::q254::q255::q256::q257::q258::q259::q260::q261::q262::q263::q264::q265::q266::q267::q268::q269::q270::q271::q272::q273::q274::q275::q276::q277::q278::q279::q280::q281::q282::q283::q284::q285::q286::q287::q288::q289::q290::q291::q292::q293::q294::q295::q296::q297::q298::q299::q300::q301::q302::q303::q304::q305::q306::q307::q308::q309::q310::q311::q312::q313::q314::q315::q316::q317::q318::q319::q320::q321::[]),defers:=[] } W0:=by
 dsimp only [mtail15]
 go_upto_region 15 with fail
 go_cut [20] (fun s20 wz=>s20 = .pointer (some ⟨go,0,none⟩)∧∃ v':Value,Aside0 (MkAt wz gm w0.heap.size c ⟨A1,c1,A2,c2,A3,c3,A4,c4⟩ t (l ++ [⟨t,(l.length:Int) + 1,parent,0,s.f1,3,s.f0,ver,strServe,x,0,false⟩]) v')∧Aside0 (KeepM W0 v wz v' gm)∧Aside0 (Below w0.heap.size w0 wz))
 case first=>
  obtain ⟨Av,cpv,ev⟩:=own_slice HM.out.own
  have HM_:=Aside0.mk (ev ▸ HM.out)
  have m13:W0.cell? ⟨gm,13,none⟩ = some (.slice Av l.length cpv):=(blk_cell HM_.out.blk 13).trans rfl
  have u0:W0.cell? ⟨go,0,none⟩ = some (.int .i64 t):=(blk_cell HO.out 0).trans rfl
  have u1:W0.cell? ⟨go,1,none⟩ = some (.int .i64 ((l.length:Int) + 1)):=(blk_cell HO.out 1).trans rfl
  have u2:W0.cell? ⟨go,2,none⟩ = some (.int .i64 parent):=(blk_cell HO.out 2).trans rfl
  have u3:W0.cell? ⟨go,3,none⟩ = some (.int .i64 0):=(blk_cell HO.out 3).trans rfl
  have u4:W0.cell? ⟨go,4,none⟩ = some (.int .i64 s.f1):=(blk_cell HO.out 4).trans rfl
  have u5:W0.cell? ⟨go,5,none⟩ = some (.int .i64 3):=(blk_cell HO.out 5).trans rfl
  have u6:W0.cell? ⟨go,6,none⟩ = some (.string s.f0):=(blk_cell HO.out 6).trans rfl
  have u7:W0.cell? ⟨go,7,none⟩ = some (.string ver):=(blk_cell HO.out 7).trans rfl
  have u8:W0.cell? ⟨go,8,none⟩ = some (.string strServe):=(blk_cell HO.out 8).trans rfl
  have u9:W0.cell? ⟨go,9,none⟩ = some (.int .i64 x):=(blk_cell HO.out 9).trans rfl
  have u10:W0.cell? ⟨go,10,none⟩ = some (.int .i64 0):=(blk_cell HO.out 10).trans rfl
  have u11:W0.cell? ⟨go,11,none⟩ = some (.bool false):=(blk_cell HO.out 11).trans rfl
  have u12:W0.cell? ⟨go,12,none⟩ = some (.slice none 0 0):=(blk_cell HO.out 12).trans rfl
  have u13:W0.cell? ⟨go,13,none⟩ = some (.slice none 0 0):=(blk_cell HO.out 13).trans rfl
  clear HM
  have HM:=Aside0.mk HM_.out
  clear HM_
  refine start_ (n:=11) (S:=fun w'=>Below W0.heap.size W0 w') (ds:=[7,10]) (bz 11 0) (by kernel_rfl) rfl rfl (Below.refl _ _).drew (fun hHeld=>?_)
  refine with_tabW mkT.tab15 mkT.bits15 (fun HT_ HW_=>?_)
  generalize W0.drew = wd at hHeld ⊢
  refine pu_ 0 (some 149) (bz 11 1) HT_ rfl rfl ?_
  refine pu_ 1 (some 150) (bz 11 3) HT_ rfl rfl ?_
  refine pu_ 2 (some 151) (bz 11 7) HT_ rfl rfl ?_
  refine pu_ 3 (some 152) (bz 11 15) HT_ rfl rfl ?_
  refine tk_ 4 (some 153) (bz 11 31) HT_ HW_ rfl rfl hHeld ?_ (by intro w' hS;replace m13:=below_at hS m13;go_simp;with_reducible rfl)
  refine tk_ 5 (some 154) (bz 11 63) HT_ HW_ rfl rfl hHeld ?_ (by intro w' hS;replace u0:=below_at hS u0;replace u1:=below_at hS u1;replace u2:=below_at hS u2;replace u3:=below_at hS u3;replace u4:=below_at hS u4;replace u5:=below_at hS u5;replace u6:=below_at hS u6;replace u7:=below_at hS u7;replace u8:=below_at hS u8;replace u9:=below_at hS u9;replace u10:=below_at hS u10;replace u11:=below_at hS u11;replace u12:=below_at hS u12;replace u13:=below_at hS u13;go_simp;with_reducible rfl)
  refine one_ (i:=6) (N:=some 155) (bz 11 127) rfl rfl (one_of HT_.out (by kernel_rfl)) (by decide) (fun K hK=>?_)
  refine event_step (w1:=World.alloc wd (.cells #[.int .i64 t,.int .i64 ((l.length:Int) + 1),.int .i64 parent,.int .i64 0,.int .i64 s.f1,.int .i64 3,.string s.f0,.string ver,.string strServe,.int .i64 x,.int .i64 0,.bool false,.slice none 0 0,.slice none 0 0] 74)) (v:=.slice (some ⟨wd.heap.size,0,none⟩) 1 1) (by rfl) (by go_simp) ?_
  have hHeld0:=hHeld
  refine hK.out _ _ (below_alloc hHeld _) (fun _=>?_)
  clear hHeld
  have hHeld:=hHeld0
  clear hHeld0
  clear hK K
  refine norm_ (a':=?_) ?_ ?_
  rotate_left
  ·show Act.put _ (some 155) _ = _
   simp only [Act.put,List.setIfInBounds_toArray,List.set_cons_zero,List.set_cons_succ,i64_w,i32_w]
   rfl
  have HX:=Aside0.mk (HM.out.below hHeld)
  have HBX:=Aside0.mk (below_step HB.out hHeld)
  refine last_ (i:=7) (N:=some 156) (bz 11 255) rfl rfl (one_of HT_.out (by kernel_rfl)) (by decide) (fun K hK=>?_)
  refine step_append_cells (w0:=w0) w0.heap.size (by rfl) (.tmp 153) (.tmp 155) 68 74 _ 14 168 rfl Tryz.underlying68 info74 rfl (by decide) (by decide) (.slice Av l.length cpv) l.length (spc l) (Sp.cells (⟨t,(l.length:Int) + 1,parent,0,s.f1,3,s.f0,ver,strServe,x,0,false⟩:Sp)) (by rfl) (by rfl) rfl ?c1 HX.out.own HBX.out HBX.out.size ?c3 ?_;(case c1=>intro u hu;simp [Sp.cells] at hu;rcases hu with rfl | rfl | rfl | rfl | rfl | rfl | rfl | rfl | rfl | rfl | rfl | rfl | rfl | rfl <;> rfl);(case c3=>omega)
  intro v6 w6 hown1 hb1 hg1 hat1
  obtain ⟨A6,c6,e6⟩:=own_slice hown1
  subst e6
  have HM1:=Aside0.mk (MkAt.grow (s:=(⟨t,(l.length:Int) + 1,parent,0,s.f1,3,s.f0,ver,strServe,x,0,false⟩:Sp)) HX.out hown1 hg1)
  have HK1:=Aside0.mk ((KeepM.of_below (v:=(.slice Av l.length cpv)) (gm:=gm) hHeld).trans (KeepM.grow hg1 hat1))
  have HB1:=Aside0.mk (hb1.setCell (p:=⟨gm,13,none⟩) hgm (.slice A6 (l.length + 1) c6))
  have hvv:=blk_grown HX.out.blk hg1 HX.out.nm
  have y1:=(blk_cell hvv 13).trans rfl
  have y2:=blk_frozen hvv 13
  clear hvv hown1 hb1 hg1 hat1 hHeld
  refine hK.out _ _ ?_
  clear hK K
  refine norm_ (a':=?_) ?_ ?_
  rotate_left
  ·show Act.put _ (some 156) _ = _
   simp only [Act.put,List.setIfInBounds_toArray,List.set_cons_zero,List.set_cons_succ,i64_w,i32_w]
   rfl
  refine pu_ 8 (some 157) (bz 11 511) HT_ rfl rfl ?_
  refine pu_ 9 (some 158) (bz 11 1023) HT_ rfl rfl ?_
  refine last_ (i:=10) (N:=none) (bz 11 2047) rfl rfl (one_of HT_.out (by kernel_rfl)) (by decide) (fun K hK=>?_)
  rw [if_pos (by rfl)]
  go_simp
  refine hK.out _ _ ?_
  clear hK K
  refine done_ (done_of HT_.out (by kernel_rfl)) ?_
  go_wp2
  go_meet
  rw [ev]
  exact ⟨rfl,_,HM1,HK1,HB1⟩
 case rest=>
 obtain ⟨rfl,v3,HM3,HK3,HB3⟩:=hcut
 rename_i hK
 exact hK _ _ (mserve_tail16 w0 gm gs c A1 c1 A2 c2 A3 c3 A4 c4 t s A5 c5 slot sm n go ver parent x wk fk l r1 r2 l' W _ v v3 z1 z2 L2 hl hx0 hx1 hwk0 hwk1 hz1 hz2 hz3 hd hd1 hn5 hgm hgs hgoM (HK3.out.ne (blk_lt HO.out) hgoV) HA HC HS5 HCF HM3 ⟨HK.out.trans HK3.out⟩ HB3 ⟨HK3.out.other HM.out HG.out hgs (by decide)⟩ ⟨HK3.out.keep HO.out hgoM hgoV⟩ IH)
def mkT.T14:Bool × List (List Nat × List Nat):=(true,[([],[]),([0],[0]),([1],[1]),([2],[2]),([],[]),([],[]),([],[]),([6],[6]),([],[]),([8],[8]),([],[]),([],[]),([3,4,5,7,9,10,11],[3,4,5,7,9,10,11]),([],[]),([13,12,0,1,2,3,4,5,6,7,8,9,10,11,12,13],[12,13])])
def mkT.B14:List Nat:=[0,1,3,7,0,0,0,64,0,256,0,0,4095,0,16383]
theorem mkT.tab14:rtab .any (opsOf Tryz.f41 14) = mkT.T14:=by kernel_rfl
theorem mkT.bits14:waitsOk mkT.T14.2 mkT.B14 = true:=by kernel_rfl
def mtail14:{ c:Code // tailFrom 14 (Tryz.f41.body.getD .skip) = some c }:=⟨_,by rfl⟩
set_option maxHeartbeats 8000000 in
set_option maxRecDepth 100000 in
theorem mserve_tail (w0:World) (gm gs:Nat) (c:Cfg) (A1:Option Addr) (c1:Nat) (A2:Option Addr) (c2:Nat) (A3:Option Addr) (c3:Nat) (A4:Option Addr) (c4:Nat) (t:Int) (s:S51) (A5:Option Addr) (c5:Nat) (slot:Int) (sm:List (ByteArray × SvV)) (n:Nat) (ver:ByteArray) (parent x wk fk:Int) (l:List Sp) (r1:Int) (r2:Bool) (l':List Sp) (W W0:World) (v:Value) (z1:Int) (z2:Bool) (L2:List Sp)
  (hl:l.length < 1000) (hx0:0 ≤ x) (hx1:x ≤ 1152921504606846976) (hwk0:0 ≤ wk) (hwk1:wk ≤ 1099511627776) (hz1:0 ≤ z1) (hz2:z1 ≤ 1152921504606846976) (hz3:l.length < L2.length) (hd:0 ≤ c.delay) (hd1:c.delay ≤ 1048576) (hn5:s.f5.length ≤ 9223372036854775807) (hgm:w0.heap.size ≤ gm) (hgs:gs ≠ gm)
  (HA:Aside0 (z1 + wk - wk / 2 = r1∧z2 = r2∧setEnd L2 l.length (z1 + wk - wk / 2) z2 = l'))
  (HC:Aside0 (callsV c.seed c.delay t ((l.length:Int) + 1) s ver (serveV c slot t sm n) s.f5 (x + wk / 2) (decide (rollV c.seed t ((l.length:Int) + 1) 4 % 1000000 < fk)) (l ++ [⟨t,(l.length:Int) + 1,parent,0,s.f1,3,s.f0,ver,strServe,x,0,false⟩]) = some (z1,z2,L2)))
  (HS5:Aside0 (∀ W',Below w0.heap.size w0 W'→Kd.C Kd.string W' A5 s.f5.length s.f5)) (HCF:Aside0 (∀ W',Below w0.heap.size w0 W'→CfgR W' ⟨A1,c1,A2,c2,A3,c3,A4,c4⟩ c)) (HM:Aside0 (MkAt W0 gm w0.heap.size c ⟨A1,c1,A2,c2,A3,c3,A4,c4⟩ t l v)) (HK:Aside0 (KeepM W v W0 v gm)) (HB:Aside0 (Below w0.heap.size w0 W0)) (HG:Aside0 (W0.heap[gs]? = some (.cells (svCells s A5 c5) 51 (0,0))))
  (IH:Aside0 (∀ (i:Nat) (nm:ByteArray) (hi:i < s.f5.length) (hnm:s.f5[i] = nm) (parent x:Int) (l:List Sp) (r1:Int) (r2:Bool) (l':List Sp) (W:World) (v:Value),serveV c slot t sm n nm parent x l = some (r1,r2,l')→MkAt W gm w0.heap.size c ⟨A1,c1,A2,c2,A3,c3,A4,c4⟩ t l v→Below w0.heap.size w0 W→Calls Tryz.prog 41 #[.pointer (some ⟨gm,0,none⟩),.int .i64 (svIdx c.sv nm),.int .i64 parent,.int .i64 x] W fun e w'=>e = .returned (.tuple #[.int .i64 r1,.bool r2])∧∃ v',MkAt w' gm w0.heap.size c ⟨A1,c1,A2,c2,A3,c3,A4,c4⟩ t l' v'∧KeepM W v w' v' gm∧Below w0.heap.size w0 w')) {q1 q4 q5 q6 q7 q8 q9 q11 q14 q15 q18 q19 q20 q21 q22 q23 q24 q25 q26 q27 q28 q29 q30 q31 q32 q33 q34 q35 q36 q37 q38 q39 q40 q41 q42 q43 q44 q45 q46 q47 q48 q49 q50 q51 q52 q53 q54 q55 q56 q57 q58 q59 q60 q61 q62 q63 q64 q65 q66 q67 q68 q69 q70 q71 q72 q73 q74 q75 q76 q77 q78 q79 q80 q81 q82 q83 q84 q85 q86 q87 q88 q89 q90 q91 q92 q93 q94 q95 q96 q97 q98 q99 q100 q101 q102 q103 q104 q105 q106 q107 q108 q109 q110 q111 q112 q113 q114 q115 q116 q117 q118 q119 q120 q121 q122 q123 q124 q125 q126 q127 q128 q129 q130 q131 q132 q133 q134 q135 q136 q137 q138 q139 q140 q141 q142 q143 q144 q145 q146 q147 q148 q149 q150 q151 q152 q153 q154 q155 q156 q157 q158 q159 q160 q161 q162 q163 q164 q165 q166 q167 q168 q169 q170 q171 q172 q173 q174 q175 q176 q177 q178 q179 q180 q181 q182 q183 q184 q185 q186 q187 q188 q189 q190 q191 q192 q193 q194 q195 q196 q197 q198 q199 q200 q201 q202 q203 q204 q205 q206 q207 q208 q209 q210 q211 q212 q213 q214 q215 q216 q217 q218 q219 q220 q221 q222 q223 q224 q225 q226 q227 q228 q229 q230 q231 q232 q233 q234 q235 q236 q237 q238 q239 q240 q241 q242 q243 q244 q245 q246 q247 q248 q249 q250 q251 q252 q253 q254 q255 q256 q257 q258 q259 q260 q261 q262 q263 q264 q265 q266 q267 q268 q269 q270 q271 q272 q273 q274 q275 q276 q277 q278 q279 q280 q281 q282 q283 q284 q285 q286 q287 q288 q289 q290 q291 q292 q293 q294 q295 q296 q297 q298 q299 q300 q301 q302 q303 q304 q305 q306 q307 q308 q309 q310 q311 q312 q313 q314 q315 q316 q317 q318 q319 q320 q321:Value}:
  Code.wp Tryz.prog mtail14.1 (bodyPost Tryz.prog Tryz.f41 (fun e w'=>e = .returned (.tuple #[.int .i64 r1,.bool r2])∧∃ v',MkAt w' gm w0.heap.size c ⟨A1,c1,A2,c2,A3,c3,A4,c4⟩ t l' v'∧KeepM W v w' v' gm∧Below w0.heap.size w0 w')) { tmps:=List.toArray ((.pointer (some ⟨gm,0,none⟩))::q1::(.int .i64 parent)::(.int .i64 x)::q4::q5::q6::q7::q8::q9::(.pointer (some ⟨gs,0,none⟩))::q11::(.int .i64 ((l.length:Int) + 1))::(.string ver)::q14::q15::(.int .i64 wk)::(.int .i64 fk)::q18::q19::q20::q21::q22::q23::q24::q25::q26::q27::q28::q29::q30::q31::q32::q33::q34::q35::q36::q37::q38::q39::q40::q41::q42::q43::q44::q45::q46::q47::q48::q49::q50::q51::q52::q53::q54::q55::q56::q57::q58::q59::q60::q61::q62::q63::q64::q65::q66::q67::q68::q69::q70::q71::q72::q73::q74::q75::q76::q77::q78::q79::q80::q81::q82::q83::q84::q85::q86::q87::q88::q89::q90::q91::q92::q93::q94::q95::q96::q97::q98::q99::q100::q101::q102::q103::q104::q105::q106::q107::q108::q109::q110::q111::q112::q113::q114::q115::q116::q117::q118::q119::q120::q121::q122::q123::q124::q125::q126::q127::q128::q129::q130::q131::q132::q133::q134::q135::q136::q137::q138::q139::q140::q141::q142::q143::q144::q145::q146::q147::q148::q149::q150::q151::q152::q153::q154::q155::q156::q157::q158::q159::q160::q161::q162::q163::q164::q165::q166::q167::q168::q169::q170::q171::q172::q173::q174::q175::q176::q177::q178::q179::q180::q181::q182::q183::q184::q185::q186::q187::q188::q189::q190::q191::q192::q193::q194::q195::q196::q197::q198::q199::q200::q201::q202::q203::q204::q205::q206::q207::q208::q209::q210::q211::q212::q213::q214::q215::q216::q217::q218::q219::q220::q221::q222::q223::q224::q225::q226::q227::q228::q229::q230::q231::q232::q233::q234::q235::q236::q237::q238::q239::q240::q241::q242::q243::q244::q245::q246::q247::q248::q249::q250::q251::q252::q253::q254::q255::q256::q257::q258::q259::q260::q261::q262::q263::q264::q265::q266::q267::q268::q269::q270::q271::q272::q273::q274::q275::q276::q277::q278::q279::q280::q281::q282::q283::q284::q285::q286::q287::q288::q289::q290::q291::q292::q293::q294::q295::q296::q297::q298::q299::q300::q301::q302::q303::q304::q305::q306::q307::q308::q309::q310::q311::q312::q313::q314::q315::q316::q317::q318::q319::q320::q321::[]),defers:=[] } W0:=by
 dsimp only [mtail14]
 go_upto_region 14 with fail
 go_cut [20] (fun s20 wz=>∃ go:Nat,s20 = .pointer (some ⟨go,0,none⟩)∧Aside0 (wz.heap[go]? = some (.cells #[.int .i64 t,.int .i64 ((l.length:Int) + 1),.int .i64 parent,.int .i64 0,.int .i64 s.f1,.int .i64 3,.string s.f0,.string ver,.string strServe,.int .i64 x,.int .i64 0,.bool false,.slice none 0 0,.slice none 0 0] 74 (0,0)))∧Aside0 (W0.heap.size ≤ go)∧Aside0 (Below W0.heap.size W0 wz))
 case first=>
  have m12:W0.cell? ⟨gm,12,none⟩ = some (.int .i64 t):=(blk_cell HM.out.blk 12).trans rfl
  have g0:W0.cell? ⟨gs,0,none⟩ = some (.string s.f0):=(blk_cell HG.out 0).trans rfl
  have g1:W0.cell? ⟨gs,1,none⟩ = some (.int .i64 s.f1):=(blk_cell HG.out 1).trans rfl
  refine start_ (n:=15) (S:=fun w'=>Below W0.heap.size W0 w') (ds:=[14]) (bz 15 0) (by kernel_rfl) rfl rfl (Below.refl _ _).drew (fun hHeld=>?_)
  refine with_tabW mkT.tab14 mkT.bits14 (fun HT_ HW_=>?_)
  generalize W0.drew = wd at hHeld ⊢
  refine pu_ 0 (some 136) (bz 15 1) HT_ rfl rfl ?_
  refine pu_ 1 (some 137) (bz 15 3) HT_ rfl rfl ?_
  refine pu_ 2 (some 138) (bz 15 7) HT_ rfl rfl ?_
  refine tk_ 3 (some 139) (bz 15 15) HT_ HW_ rfl rfl hHeld ?_ (by intro w' hS;replace m12:=below_at hS m12;go_simp;with_reducible rfl)
  refine pu_ 4 (some 140) (bz 15 31) HT_ rfl rfl ?_
  refine pu_ 5 (some 141) (bz 15 63) HT_ rfl rfl ?_
  refine pu_ 6 (some 142) (bz 15 127) HT_ rfl rfl ?_
  refine tk_ 7 (some 143) (bz 15 255) HT_ HW_ rfl rfl hHeld ?_ (by intro w' hS;replace g1:=below_at hS g1;go_simp;with_reducible rfl)
  refine pu_ 8 (some 144) (bz 15 511) HT_ rfl rfl ?_
  refine tk_ 9 (some 145) (bz 15 1023) HT_ HW_ rfl rfl hHeld ?_ (by intro w' hS;replace g0:=below_at hS g0;go_simp;with_reducible rfl)
  refine pu_ 10 (some 146) (bz 15 2047) HT_ rfl rfl ?_
  refine pu_ 11 (some 147) (bz 15 4095) HT_ rfl rfl ?_
  refine pu_ 12 (some 148) (bz 15 8191) HT_ rfl rfl ?_
  refine one_ (i:=13) (N:=some 20) (bz 15 16383) rfl rfl (one_of HT_.out (by kernel_rfl)) (by decide) (fun K hK=>?_)
  refine box_step ?hg (N:=20) ?hd (cs:=#[.int .i64 0,.int .i64 0,.int .i64 0,.int .i64 0,.int .i64 0,.int .i64 0,.string ⟨#[]⟩,.string ⟨#[]⟩,.string ⟨#[]⟩,.int .i64 0,.int .i64 0,.bool false,.slice none 0 0,.slice none 0 0]) (t:=74) ?hr ?_;(case hd=>rfl);(case hg=>rfl);(case hr=>first | (go_simp;done) | (go_simp;rfl))
  intro sb hsb ws hbx hb
  have hge:W0.heap.size ≤ sb:=by rw [hsb];exact hHeld.size
  clear hsb
  replace hHeld:=below_step hHeld hb
  clear hb
  refine hK.out _ _ hHeld (fun hHeld=>?_)
  clear hK K
  refine norm_ (a':=?_) ?_ ?_
  rotate_left
  ·show Act.put _ (some 20) _ = _
   simp only [Act.put,List.setIfInBounds_toArray,List.set_cons_zero,List.set_cons_succ,i64_w,i32_w]
   rfl
  have hK5:=Aside0.mk hbx
  have c10:=(blk_cell hbx 0).trans rfl
  have c11:=(blk_cell hbx 1).trans rfl
  have c12:=(blk_cell hbx 2).trans rfl
  have c13:=(blk_cell hbx 3).trans rfl
  have c14:=(blk_cell hbx 4).trans rfl
  have c15:=(blk_cell hbx 5).trans rfl
  have c16:=(blk_cell hbx 6).trans rfl
  have c17:=(blk_cell hbx 7).trans rfl
  have c18:=(blk_cell hbx 8).trans rfl
  have c19:=(blk_cell hbx 9).trans rfl
  have c20:=(blk_cell hbx 10).trans rfl
  have c21:=(blk_cell hbx 11).trans rfl
  have c22:=(blk_cell hbx 12).trans rfl
  have c23:=(blk_cell hbx 13).trans rfl
  have d10:=blk_frozen hbx 0
  have d11:=blk_frozen hbx 1
  have d12:=blk_frozen hbx 2
  have d13:=blk_frozen hbx 3
  have d14:=blk_frozen hbx 4
  have d15:=blk_frozen hbx 5
  have d16:=blk_frozen hbx 6
  have d17:=blk_frozen hbx 7
  have d18:=blk_frozen hbx 8
  have d19:=blk_frozen hbx 9
  have d20:=blk_frozen hbx 10
  have d21:=blk_frozen hbx 11
  have d22:=blk_frozen hbx 12
  have d23:=blk_frozen hbx 13
  clear hbx
  refine last_ (i:=14) (N:=none) (bz 15 32767) rfl rfl (one_of HT_.out (by kernel_rfl)) (by decide) (fun K hK=>?_)
  rw [if_pos (by rfl)]
  go_simp
  refine hK.out _ _ ?_
  clear hK K
  refine done_ (done_of HT_.out (by kernel_rfl)) ?_
  go_wp2
  go_meet
  exact ⟨sb,rfl,⟨fill14 hK5.out _ _ _ _ _ _ _ _ _ _ _ _ _ _⟩,⟨hge⟩,⟨below14 hHeld hge _ _ _ _ _ _ _ _ _ _ _ _ _ _⟩⟩
 case rest=>
 obtain ⟨go,rfl,HO,HGO,HBO⟩:=hcut
 have hgo:=HGO.out
 have hgoM:go ≠ gm:=by have:=HM.out.lt;omega
 have hgoV:some go ≠ v.ownBlock:=fun e=>by
  have h:=own_lt HM.out.own go e.symm
  omega
 rename_i hK
 exact hK _ _ (mserve_tail15 w0 gm gs c A1 c1 A2 c2 A3 c3 A4 c4 t s A5 c5 slot sm n go ver parent x wk fk l r1 r2 l' W _ v z1 z2 L2 hl hx0 hx1 hwk0 hwk1 hz1 hz2 hz3 hd hd1 hn5 hgm hgs hgoM hgoV HA HC HS5 HCF ⟨HM.out.below HBO.out⟩ ⟨HK.out.trans (KeepM.of_below HBO.out)⟩ ⟨below_step HB.out HBO.out⟩ ⟨blk_below HG.out HBO.out⟩ HO IH)
end Go.Proofs.YtdadnapfecmmdaaGreat.P
