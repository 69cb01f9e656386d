/- Own texts of a proof about layer 55's simulate (merged): Mb. -/
import Derived.Test.YtdadnapfecmmdaaGreatXs11
import Derived.Test.YtdadnapfecmmdaaGreatXs2
namespace Go.Proofs.YtdadnapfecmmdaaGreat.P
set_option linter.unusedVariables false
set_option linter.unusedSimpArgs false
open Go.RowKit Go.Proofs.YtdadnapfecmmdaaGreatW.PrintWords Go.Proofs.YtdadnapfecmmdaaGreatW.PrintLast Go.Proofs.YtdadnapfecmmdaaGreatW.PrintMore
open Go.Proofs.YtdadnapfecmmdaaGreat.Hm
theorem fill5 {W:World} {g:Nat} {ty:TypeId} {z0 z1 z2 z3 z4 z5 z6 z7 z8 z9 z10 z11 z12 z13:Value} (h:W.heap[g]? = some (.cells #[z0,z1,z2,z3,z4,z5,z6,z7,z8,z9,z10,z11,z12,z13] ty (0,0))) (v1 v2 v5 v8 v9:Value):
  (((((W.setCell ⟨g,1,none⟩ v1).setCell ⟨g,2,none⟩ v2).setCell ⟨g,5,none⟩ v5).setCell ⟨g,8,none⟩ v8).setCell ⟨g,9,none⟩ v9).heap[g]? = some (.cells #[z0,v1,v2,z3,z4,v5,z6,z7,v8,v9,z10,z11,z12,z13] ty (0,0)):=by
 have h:=blk_set (blk_set (blk_set (blk_set (blk_set h 1 v1) 2 v2) 5 v5) 8 v8) 9 v9
 simpa only [List.setIfInBounds_toArray,List.set_cons_zero,List.set_cons_succ] using h
theorem below5 {w W:World} {g:Nat} (h:Below w.heap.size w W) (hg:w.heap.size ≤ g) (v1 v2 v5 v8 v9:Value):
  Below w.heap.size w (((((W.setCell ⟨g,1,none⟩ v1).setCell ⟨g,2,none⟩ v2).setCell ⟨g,5,none⟩ v5).setCell ⟨g,8,none⟩ v8).setCell ⟨g,9,none⟩ v9):=
 ((((h.setCell hg _).setCell hg _).setCell hg _).setCell hg _).setCell hg _
def mkT.T24:Bool × List (List Nat × List Nat):=(true,[([],[]),([],[]),([1],[1]),([2],[2]),([3],[3]),([],[]),([5],[5]),([4,6],[4,6]),([0,0,1,2,3,4,5,6,7],[0]),([8,0,1,2,3,4,5,6,7],[8]),([9,7,7,0,1,2,3,4,5,6,7],[7,9])])
def mkT.B24:List Nat:=[0,0,2,6,14,0,32,126,255,511,1023]
theorem mkT.tab24:rtab .any (opsOf Tryz.f41 24) = mkT.T24:=by kernel_rfl
theorem mkT.bits24:waitsOk mkT.T24.2 mkT.B24 = true:=by kernel_rfl
def mkT.T25:Bool × List (List Nat × List Nat):=(true,[([],[]),([],[]),([1],[1]),([2],[2]),([3],[3]),([],[]),([5],[5]),([],[]),([6,7],[6,7]),([8],[8]),([4,9],[4,9]),([],[]),([],[]),([],[]),([13],[13]),([14],[14]),([15],[15]),([16],[16]),([12,17],[12,17]),([],[]),([19],[19]),([20],[20]),([21],[21]),([],[]),([23],[23]),([24],[24]),([25],[25]),([],[]),([22,26,27,10],[22,26,27]),([],[]),([29],[29]),([30],[30]),([31],[31]),([32],[32]),([33],[33]),([28,34],[28,34]),([18,35],[18,35]),([0,10,11,36,28],[0,10,11,36]),([37],[37]),([38],[38]),([38],[38]),([39,37,0,1,2,3,4,5,6,7,8,9,10,11,12,13,14,15,16,17,18,19,20,21,22,23,24,25,26,27,28,29,30,31,32,33,34,35,36,37,38,39],[39]),([40,41,0,1,2,3,4,5,6,7,8,9,10,11,12,13,14,15,16,17,18,19,20,21,22,23,24,25,26,27,28,29,30,31,32,33,34,35,36,37,38,39,40,41],[40])])
def mkT.B25:List Nat:=[0,0,2,6,14,0,32,0,224,480,1022,0,0,0,8192,24576,57344,122880,258048,0,524288,1572864,3670016,0,8388608,25165824,58720256,0,267913214,0,536870912,1610612736,3758096384,8053063680,16642998272,34359216126,68719474686,137438953471,274877906943,549755813887,549755813887,1099511627775,4398046511103]
theorem mkT.tab25:rtab .any (opsOf Tryz.f41 25) = mkT.T25:=by kernel_rfl
theorem mkT.bits25:waitsOk mkT.T25.2 mkT.B25 = true:=by kernel_rfl
def mkT.T26:Bool × List (List Nat × List Nat):=(true,[([],[]),([],[]),([1],[1]),([2],[2]),([3],[3]),([4],[4]),([0,5],[0,5]),([],[]),([7],[7]),([8],[8]),([9],[9]),([],[]),([11],[11]),([12],[12]),([13],[13]),([],[]),([10,14,15],[10,14,15]),([],[]),([17],[17]),([18],[18]),([19],[19]),([20],[20]),([21],[21]),([16,22],[16,22]),([6,23],[6,23]),([24,16,0,1,2,3,4,5,6,7,8,9,10,11,12,13,14,15,16,17,18,19,20,21,22,23,24],[24])])
def mkT.B26:List Nat:=[0,0,2,6,14,30,63,0,128,384,896,0,2048,6144,14336,0,65408,0,131072,393216,917504,1966080,4063232,8388480,16777215,33554431]
theorem mkT.tab26:rtab .any (opsOf Tryz.f41 26) = mkT.T26:=by kernel_rfl
theorem mkT.bits26:waitsOk mkT.T26.2 mkT.B26 = true:=by kernel_rfl
def mkT.T27:Bool × List (List Nat × List Nat):=(true,[([],[]),([0],[0]),([1],[1]),([2],[2]),([],[]),([4],[4]),([],[]),([6],[6]),([7],[7]),([8],[8]),([],[]),([10],[10]),([],[]),([],[]),([3,5,0,1,2,3,4,5,9,12],[3,5]),([14,0,1,2,3,4,5,9,12],[14]),([15,12,0,1,2,3,4,5,9,12],[12,15]),([9,11,0,1,2,3,4,5,6,7,8,9,10,11,12,13,14,15,16],[9,11]),([17,0,1,2,3,4,5,6,7,8,9,10,11,12,13,14,15,16],[17]),([18,13,16,0,1,2,3,4,5,6,7,8,9,10,11,12,13,14,15,16],[13,18])])
def mkT.B27:List Nat:=[0,1,3,7,0,16,0,64,192,448,0,1024,0,0,5119,21503,54271,131071,262143,524287]
theorem mkT.tab27:rtab .any (opsOf Tryz.f41 27) = mkT.T27:=by kernel_rfl
theorem mkT.bits27:waitsOk mkT.T27.2 mkT.B27 = true:=by kernel_rfl
def mblk3:{ c:Code // blockFrom 3 (Tryz.f41.body.getD .skip) = some c }:=⟨_,by rfl⟩
set_option maxHeartbeats 8000000 in
set_option maxRecDepth 100000 in
theorem mserve_body (w0:World) (gm gs go:Nat) (c:Cfg) (A1:Option Addr) (c1:Nat) (A2:Option Addr) (c2:Nat) (A3:Option Addr) (c3:Nat) (A4:Option Addr) (c4:Nat) (t:Int) (s:S51) (ad5:Addr) (c5:Nat) (ver:ByteArray) (o1 o2 o9 y:Int) (i:Nat) (bf:Bool) (L L3:List Sp) (v:Value) (nm:ByteArray) (v1:Int) (v2:Bool) (W0:World)
  (hL:L.length < 1000) (hy0:0 ≤ y) (hy1:y ≤ 1152921504606846976) (hv0:0 ≤ v1) (hv1:v1 ≤ 1152921504606846976) (hL3:L.length < L3.length) (hd:0 ≤ c.delay) (hd1:c.delay ≤ 1048576) (hi:i < s.f5.length) (hn5:s.f5.length ≤ 9223372036854775807) (hgm:w0.heap.size ≤ gm)
  (HE5:Aside0 (∀ W',Below w0.heap.size w0 W'→W'.cell? (ad5.add i) = some (.string nm))) (HCF:Aside0 (∀ W',Below w0.heap.size w0 W'→CfgR W' ⟨A1,c1,A2,c2,A3,c3,A4,c4⟩ c)) (HM:Aside0 (MkAt W0 gm w0.heap.size c ⟨A1,c1,A2,c2,A3,c3,A4,c4⟩ t L v)) (HB:Aside0 (Below w0.heap.size w0 W0)) (HG:Aside0 (W0.heap[gs]? = some (.cells (svCells s (some ad5) c5) 51 (0,0)))) (HO:Aside0 (W0.heap[go]? = some (.cells #[.int .i64 t,.int .i64 o1,.int .i64 o2,.int .i64 0,.int .i64 s.f1,.int .i64 3,.string s.f0,.string ver,.string strServe,.int .i64 o9,.int .i64 0,.bool false,.slice none 0 0,.slice none 0 0] 74 (0,0)))) (hgs:gs ≠ gm)
  (IH:Aside0 (∀ W' v',MkAt W' gm w0.heap.size c ⟨A1,c1,A2,c2,A3,c3,A4,c4⟩ t (L ++ [(⟨t,(L.length:Int) + 1,o1,0,s.f1,2,s.f0,ver,strCall,y,0,false⟩:Sp)]) v'→Below w0.heap.size w0 W'→Calls Tryz.prog 41 #[.pointer (some ⟨gm,0,none⟩),.int .i64 (svIdx c.sv nm),.int .i64 ((L.length:Int) + 1),.int .i64 (y + c.delay + rollV c.seed t ((L.length:Int) + 1) 2 % (c.delay + 1))] W' fun e w'=>e = .returned (.tuple #[.int .i64 v1,.bool v2])∧∃ v'',MkAt w' gm w0.heap.size c ⟨A1,c1,A2,c2,A3,c3,A4,c4⟩ t L3 v''∧KeepM W' v' w' v'' gm∧Below w0.heap.size w0 w'))
  {q1 q2 q3 q4 q5 q6 q7 q8 q11 q13 q14 q15 q16 q17 q18 q19 q23 q24 q25 q26 q27 q28 q29 q30 q31 q32 q33 q34 q35 q36 q37 q38 q39 q40 q41 q42 q43 q44 q45 q46 q47 q48 q49 q50 q51 q52 q53 q54 q55 q56 q57 q58 q59 q60 q61 q62 q63 q64 q65 q66 q67 q68 q69 q70 q71 q72 q73 q74 q75 q76 q77 q78 q79 q80 q81 q82 q83 q84 q85 q86 q87 q88 q89 q90 q91 q92 q93 q94 q95 q96 q97 q98 q99 q100 q101 q102 q103 q104 q105 q106 q107 q108 q109 q110 q111 q112 q113 q114 q115 q116 q117 q118 q119 q120 q121 q122 q123 q124 q125 q126 q127 q128 q129 q130 q131 q132 q133 q134 q135 q136 q137 q138 q139 q140 q141 q142 q143 q144 q145 q146 q147 q148 q149 q150 q151 q152 q153 q154 q155 q156 q157 q158 q159 q160 q161 q162 q163 q164 q165 q166 q167 q168 q169 q170 q171 q172 q173 q174 q175 q176 q177 q178 q179 q180 q181 q182 q183 q184 q185 q186 q187 q188 q189 q190 q191 q192 q193 q194 q195 q196 q197 q198 q199 q200 q201 q202 q203 q204 q205 q206 q207 q208 q209 q210 q211 q212 q213 q214 q215 q216 q217 q218 q219 q220 q221 q222 q223 q224 q225 q226 q227 q228 q229 q230 q231 q232 q233 q234 q235 q236 q237 q238 q239 q240 q241 q242 q243 q244 q245 q246 q247 q248 q249 q250 q251 q252 q253 q254 q255 q256 q257 q258 q259 q260 q261 q262 q263 q264 q265 q266 q267 q268 q269 q270 q271 q272 q273 q274 q275 q276 q277 q278 q279 q280 q281 q282 q283 q284 q285 q286 q287 q288 q289 q290 q291 q292 q293 q294 q295 q296 q297 q298 q299 q300 q301 q302 q303 q304 q305 q306 q307 q308 q309 q310 q311 q312 q313 q314 q315 q316 q317 q318 q319 q320 q321:Value} (Q:Exit→Go.Act→World→Prop) (hQ:∀ x (a:Go.Act) N v w,Q (Exit.panic x) (Go.Act.put a N v) w→Q (Exit.panic x) a w) (KK:Go.Act→World→Prop) (HKK:Aside0 (∀ {r9 r21 r23 r24 r25 r26 r176 r177 r178 r179 r180 r181 r182 r183 r184 r185 r186 r187 r188 r189 r190 r191 r192 r193 r194 r195 r196 r197 r198 r199 r200 r201 r202 r203 r204 r205 r206 r207 r208 r209 r210 r211 r212 r213 r214 r215 r216 r217 r218 r219 r220 r221 r222 r223 r224 r225 r226 r227 r228 r229 r230 r231 r232 r233 r234 r235 r236 r237 r238 r239 r240 r241 r242 r243 r244 r245 r246 r247 r248 r249 r250 r251 r252 r253 r254 r255 r256 r257 r258 r259 r260 r261 r262 r263 r264 r265 r266 r267 r268 r269 r270 r271 r272 r273 r274 r275 r276 r277 r278 r279 r280 r281 r282 r283 r284 r285 r286 r287 r288 r289 r290 r291 r292 r293 r294 r295:Value} {wz:World},(r21 = .int .i64 (v1 + c.delay + rollV c.seed t ((L.length:Int) + 1) 3 % (c.delay + 1))∧r9 = .bool (bf || v2)∧∃ v':Value,Aside0 (MkAt wz gm w0.heap.size c ⟨A1,c1,A2,c2,A3,c3,A4,c4⟩ t (setEnd L3 L.length (v1 + c.delay + rollV c.seed t ((L.length:Int) + 1) 3 % (c.delay + 1)) v2) v')∧Aside0 (KeepM W0 v wz v' gm)∧Aside0 (Below w0.heap.size w0 wz))→KK { tmps:=List.toArray ((.pointer (some ⟨gm,0,none⟩))::q1::q2::q3::q4::q5::q6::q7::q8::(r9)::(.pointer (some ⟨gs,0,none⟩))::q11::(.int .i64 o1)::q13::q14::q15::q16::q17::q18::q19::(.pointer (some ⟨go,0,none⟩))::(r21)::(.int .i64 (i:Int))::(r23)::(r24)::(r25)::(r26)::q27::q28::q29::q30::q31::q32::q33::q34::q35::q36::q37::q38::q39::q40::q41::q42::q43::q44::q45::q46::q47::q48::q49::q50::q51::q52::q53::q54::q55::q56::q57::q58::q59::q60::q61::q62::q63::q64::q65::q66::q67::q68::q69::q70::q71::q72::q73::q74::q75::q76::q77::q78::q79::q80::q81::q82::q83::q84::q85::q86::q87::q88::q89::q90::q91::q92::q93::q94::q95::q96::q97::q98::q99::q100::q101::q102::q103::q104::q105::q106::q107::q108::q109::q110::q111::q112::q113::q114::q115::q116::q117::q118::q119::q120::q121::q122::q123::q124::q125::q126::q127::q128::q129::q130::q131::q132::q133::q134::q135::q136::q137::q138::q139::q140::q141::q142::q143::q144::q145::q146::q147::q148::q149::q150::q151::q152::q153::q154::q155::q156::q157::q158::q159::q160::q161::q162::q163::q164::q165::q166::q167::q168::q169::q170::q171::q172::q173::q174::q175::(r176)::(r177)::(r178)::(r179)::(r180)::(r181)::(r182)::(r183)::(r184)::(r185)::(r186)::(r187)::(r188)::(r189)::(r190)::(r191)::(r192)::(r193)::(r194)::(r195)::(r196)::(r197)::(r198)::(r199)::(r200)::(r201)::(r202)::(r203)::(r204)::(r205)::(r206)::(r207)::(r208)::(r209)::(r210)::(r211)::(r212)::(r213)::(r214)::(r215)::(r216)::(r217)::(r218)::(r219)::(r220)::(r221)::(r222)::(r223)::(r224)::(r225)::(r226)::(r227)::(r228)::(r229)::(r230)::(r231)::(r232)::(r233)::(r234)::(r235)::(r236)::(r237)::(r238)::(r239)::(r240)::(r241)::(r242)::(r243)::(r244)::(r245)::(r246)::(r247)::(r248)::(r249)::(r250)::(r251)::(r252)::(r253)::(r254)::(r255)::(r256)::(r257)::(r258)::(r259)::(r260)::(r261)::(r262)::(r263)::(r264)::(r265)::(r266)::(r267)::(r268)::(r269)::(r270)::(r271)::(r272)::(r273)::(r274)::(r275)::(r276)::(r277)::(r278)::(r279)::(r280)::(r281)::(r282)::(r283)::(r284)::(r285)::(r286)::(r287)::(r288)::(r289)::(r290)::(r291)::(r292)::(r293)::(r294)::(r295)::q296::q297::q298::q299::q300::q301::q302::q303::q304::q305::q306::q307::q308::q309::q310::q311::q312::q313::q314::q315::q316::q317::q318::q319::q320::q321::[]),defers:=[] } wz)):
  Code.wp Tryz.prog mblk3.1 (Exit.then KK Q) { tmps:=List.toArray ((.pointer (some ⟨gm,0,none⟩))::q1::q2::q3::q4::q5::q6::q7::q8::(.bool bf)::(.pointer (some ⟨gs,0,none⟩))::q11::(.int .i64 o1)::q13::q14::q15::q16::q17::q18::q19::(.pointer (some ⟨go,0,none⟩))::(.int .i64 y)::(.int .i64 (i:Int))::q23::q24::q25::q26::q27::q28::q29::q30::q31::q32::q33::q34::q35::q36::q37::q38::q39::q40::q41::q42::q43::q44::q45::q46::q47::q48::q49::q50::q51::q52::q53::q54::q55::q56::q57::q58::q59::q60::q61::q62::q63::q64::q65::q66::q67::q68::q69::q70::q71::q72::q73::q74::q75::q76::q77::q78::q79::q80::q81::q82::q83::q84::q85::q86::q87::q88::q89::q90::q91::q92::q93::q94::q95::q96::q97::q98::q99::q100::q101::q102::q103::q104::q105::q106::q107::q108::q109::q110::q111::q112::q113::q114::q115::q116::q117::q118::q119::q120::q121::q122::q123::q124::q125::q126::q127::q128::q129::q130::q131::q132::q133::q134::q135::q136::q137::q138::q139::q140::q141::q142::q143::q144::q145::q146::q147::q148::q149::q150::q151::q152::q153::q154::q155::q156::q157::q158::q159::q160::q161::q162::q163::q164::q165::q166::q167::q168::q169::q170::q171::q172::q173::q174::q175::q176::q177::q178::q179::q180::q181::q182::q183::q184::q185::q186::q187::q188::q189::q190::q191::q192::q193::q194::q195::q196::q197::q198::q199::q200::q201::q202::q203::q204::q205::q206::q207::q208::q209::q210::q211::q212::q213::q214::q215::q216::q217::q218::q219::q220::q221::q222::q223::q224::q225::q226::q227::q228::q229::q230::q231::q232::q233::q234::q235::q236::q237::q238::q239::q240::q241::q242::q243::q244::q245::q246::q247::q248::q249::q250::q251::q252::q253::q254::q255::q256::q257::q258::q259::q260::q261::q262::q263::q264::q265::q266::q267::q268::q269::q270::q271::q272::q273::q274::q275::q276::q277::q278::q279::q280::q281::q282::q283::q284::q285::q286::q287::q288::q289::q290::q291::q292::q293::q294::q295::q296::q297::q298::q299::q300::q301::q302::q303::q304::q305::q306::q307::q308::q309::q310::q311::q312::q313::q314::q315::q316::q317::q318::q319::q320::q321::[]),defers:=[] } W0:=by
 let Qb:Exit→Go.Act→World→Prop:=bodyPost Tryz.prog Tryz.f41 (fun _ _=>True)
 dsimp only [mblk3]
 obtain ⟨Av,cpv,rfl⟩:=own_slice HM.out.own
 have m13:W0.cell? ⟨gm,13,none⟩ = some (.slice Av L.length cpv):=(blk_cell HM.out.blk 13).trans rfl
 have s1:IntKind.i64.wrap ((L.length:Int) + 1) = (L.length:Int) + 1:=IntWalk.i64_in _ (by omega)
 go_upto_region 22 with fail
 clear m13
 go_cut [24] (fun s24 wz=>∃ gc:Nat,s24 = .pointer (some ⟨gc,0,none⟩)∧Aside0 (wz.heap[gc]? = some (.cells #[.int .i64 t,.int .i64 o1,.int .i64 o2,.int .i64 0,.int .i64 s.f1,.int .i64 3,.string s.f0,.string ver,.string strServe,.int .i64 o9,.int .i64 0,.bool false,.slice none 0 0,.slice none 0 0] 74 (0,0)))∧Aside0 (W0.heap.size ≤ gc)∧Aside0 (Below W0.heap.size W0 wz))
 case first=>
  have u0:W0.cell? ⟨go,0,none⟩ = some (.int .i64 t):=(blk_cell HO.out 0).trans rfl
  have u1:W0.cell? ⟨go,1,none⟩ = some (.int .i64 o1):=(blk_cell HO.out 1).trans rfl
  have u2:W0.cell? ⟨go,2,none⟩ = some (.int .i64 o2):=(blk_cell HO.out 2).trans rfl
  have u3:W0.cell? ⟨go,3,none⟩ = some (.int .i64 0):=(blk_cell HO.out 3).trans rfl
  have u4:W0.cell? ⟨go,4,none⟩ = some (.int .i64 s.f1):=(blk_cell HO.out 4).trans rfl
  have u5:W0.cell? ⟨go,5,none⟩ = some (.int .i64 3):=(blk_cell HO.out 5).trans rfl
  have u6:W0.cell? ⟨go,6,none⟩ = some (.string s.f0):=(blk_cell HO.out 6).trans rfl
  have u7:W0.cell? ⟨go,7,none⟩ = some (.string ver):=(blk_cell HO.out 7).trans rfl
  have u8:W0.cell? ⟨go,8,none⟩ = some (.string strServe):=(blk_cell HO.out 8).trans rfl
  have u9:W0.cell? ⟨go,9,none⟩ = some (.int .i64 o9):=(blk_cell HO.out 9).trans rfl
  have u10:W0.cell? ⟨go,10,none⟩ = some (.int .i64 0):=(blk_cell HO.out 10).trans rfl
  have u11:W0.cell? ⟨go,11,none⟩ = some (.bool false):=(blk_cell HO.out 11).trans rfl
  have u12:W0.cell? ⟨go,12,none⟩ = some (.slice none 0 0):=(blk_cell HO.out 12).trans rfl
  have u13:W0.cell? ⟨go,13,none⟩ = some (.slice none 0 0):=(blk_cell HO.out 13).trans rfl
  have HN:=Aside0.mk (blk_new W0 (.cells #[.int .i64 t,.int .i64 o1,.int .i64 o2,.int .i64 0,.int .i64 s.f1,.int .i64 3,.string s.f0,.string ver,.string strServe,.int .i64 o9,.int .i64 0,.bool false,.slice none 0 0,.slice none 0 0] 74))
  have HBN:Aside0 (Below W0.heap.size W0 (W0.alloc (.cells #[.int .i64 t,.int .i64 o1,.int .i64 o2,.int .i64 0,.int .i64 s.f1,.int .i64 3,.string s.f0,.string ver,.string strServe,.int .i64 o9,.int .i64 0,.bool false,.slice none 0 0,.slice none 0 0] 74))):=⟨below_alloc (Below.refl _ _) _⟩
  go_wp2_with fail
  go_meet
  exact ⟨W0.heap.size,rfl,HN,⟨Nat.le_refl _⟩,HBN⟩
 case rest=>
 obtain ⟨gc,rfl,HC0,HGC,HBC⟩:=hcut
 have hgc:=HGC.out
 clear HO HGC
 go_upto_region 23 with fail
 go_cut [24] (fun s24 wz=>s24 = .pointer (some ⟨gc,0,none⟩)∧Aside0 (wz.heap[gc]? = some (.cells #[.int .i64 t,.int .i64 ((L.length:Int) + 1),.int .i64 o1,.int .i64 0,.int .i64 s.f1,.int .i64 2,.string s.f0,.string ver,.string strCall,.int .i64 y,.int .i64 0,.bool false,.slice none 0 0,.slice none 0 0] 74 (0,0)))∧Aside0 (Below W0.heap.size W0 wz))
 case first=>
  have u1:wc.cell? ⟨gc,1,none⟩ = some (.int .i64 o1):=(blk_cell HC0.out 1).trans rfl
  have u2:wc.cell? ⟨gc,2,none⟩ = some (.int .i64 o2):=(blk_cell HC0.out 2).trans rfl
  have u5:wc.cell? ⟨gc,5,none⟩ = some (.int .i64 3):=(blk_cell HC0.out 5).trans rfl
  have u8:wc.cell? ⟨gc,8,none⟩ = some (.string strServe):=(blk_cell HC0.out 8).trans rfl
  have u9:wc.cell? ⟨gc,9,none⟩ = some (.int .i64 o9):=(blk_cell HC0.out 9).trans rfl
  have f1:=blk_frozen HC0.out 1
  have f2:=blk_frozen HC0.out 2
  have f5:=blk_frozen HC0.out 5
  have f8:=blk_frozen HC0.out 8
  have f9:=blk_frozen HC0.out 9
  go_wp2_with fail
  go_meet
  exact ⟨rfl,⟨fill5 HC0.out _ _ _ _ _⟩,⟨below5 HBC.out hgc _ _ _ _ _⟩⟩
 case rest=>
 obtain ⟨rfl,HC1,HBC1⟩:=hcut
 clear HC0 HBC
 have HM2:=Aside0.mk (HM.out.below HBC1.out)
 have HB2:=Aside0.mk (below_step HB.out HBC1.out)
 go_upto_region 24 with fail
 go_cut [23] (fun s23 wz=>s23 = .int .i64 ((L.length:Int) + 1)∧∃ v':Value,Aside0 (MkAt wz gm w0.heap.size c ⟨A1,c1,A2,c2,A3,c3,A4,c4⟩ t (L ++ [(⟨t,(L.length:Int) + 1,o1,0,s.f1,2,s.f0,ver,strCall,y,0,false⟩:Sp)]) v')∧Aside0 (KeepM W0 (.slice Av L.length cpv) wz v' gm)∧Aside0 (Below w0.heap.size w0 wz))
 case first=>
  have m13:wc.cell? ⟨gm,13,none⟩ = some (.slice Av L.length cpv):=(blk_cell HM2.out.blk 13).trans rfl
  have u0:wc.cell? ⟨gc,0,none⟩ = some (.int .i64 t):=(blk_cell HC1.out 0).trans rfl
  have u1:wc.cell? ⟨gc,1,none⟩ = some (.int .i64 ((L.length:Int) + 1)):=(blk_cell HC1.out 1).trans rfl
  have u2:wc.cell? ⟨gc,2,none⟩ = some (.int .i64 o1):=(blk_cell HC1.out 2).trans rfl
  have u3:wc.cell? ⟨gc,3,none⟩ = some (.int .i64 0):=(blk_cell HC1.out 3).trans rfl
  have u4:wc.cell? ⟨gc,4,none⟩ = some (.int .i64 s.f1):=(blk_cell HC1.out 4).trans rfl
  have u5:wc.cell? ⟨gc,5,none⟩ = some (.int .i64 2):=(blk_cell HC1.out 5).trans rfl
  have u6:wc.cell? ⟨gc,6,none⟩ = some (.string s.f0):=(blk_cell HC1.out 6).trans rfl
  have u7:wc.cell? ⟨gc,7,none⟩ = some (.string ver):=(blk_cell HC1.out 7).trans rfl
  have u8:wc.cell? ⟨gc,8,none⟩ = some (.string strCall):=(blk_cell HC1.out 8).trans rfl
  have u9:wc.cell? ⟨gc,9,none⟩ = some (.int .i64 y):=(blk_cell HC1.out 9).trans rfl
  have u10:wc.cell? ⟨gc,10,none⟩ = some (.int .i64 0):=(blk_cell HC1.out 10).trans rfl
  have u11:wc.cell? ⟨gc,11,none⟩ = some (.bool false):=(blk_cell HC1.out 11).trans rfl
  have u12:wc.cell? ⟨gc,12,none⟩ = some (.slice none 0 0):=(blk_cell HC1.out 12).trans rfl
  have u13:wc.cell? ⟨gc,13,none⟩ = some (.slice none 0 0):=(blk_cell HC1.out 13).trans rfl
  refine start_ (n:=11) (S:=fun w'=>Below wc.heap.size wc w') (ds:=[7,10]) (bz 11 0) (by kernel_rfl) rfl rfl (Below.refl _ _).drew (fun hHeld=>?_)
  refine with_tabW mkT.tab24 mkT.bits24 (fun HT_ HW_=>?_)
  generalize wc.drew = wd at hHeld ⊢
  refine pu_ 0 (some 198) (bz 11 1) HT_ rfl rfl ?_ (hQ:=fun _ _ _ h=>hQ _ _ _ _ _ h)
  refine pu_ 1 (some 199) (bz 11 3) HT_ rfl rfl ?_ (hQ:=fun _ _ _ h=>hQ _ _ _ _ _ h)
  refine pu_ 2 (some 200) (bz 11 7) HT_ rfl rfl ?_ (hQ:=fun _ _ _ h=>hQ _ _ _ _ _ h)
  refine pu_ 3 (some 201) (bz 11 15) HT_ rfl rfl ?_ (hQ:=fun _ _ _ h=>hQ _ _ _ _ _ h)
  refine tk_ 4 (some 202) (bz 11 31) HT_ HW_ rfl rfl hHeld ?_ (by intro w' hS;replace m13:=below_at hS m13;go_simp;with_reducible rfl) (hQ:=fun _ _ _ h=>hQ _ _ _ _ _ h)
  refine tk_ 5 (some 203) (bz 11 63) HT_ HW_ rfl rfl hHeld ?_ (by intro w' hS;replace u0:=below_at hS u0;replace u1:=below_at hS u1;replace u2:=below_at hS u2;replace u3:=below_at hS u3;replace u4:=below_at hS u4;replace u5:=below_at hS u5;replace u6:=below_at hS u6;replace u7:=below_at hS u7;replace u8:=below_at hS u8;replace u9:=below_at hS u9;replace u10:=below_at hS u10;replace u11:=below_at hS u11;replace u12:=below_at hS u12;replace u13:=below_at hS u13;go_simp;with_reducible rfl) (hQ:=fun _ _ _ h=>hQ _ _ _ _ _ h)
  refine one_ (i:=6) (N:=some 204) (bz 11 127) rfl rfl (one_of HT_.out (by kernel_rfl)) (by decide) (fun K hK=>?_)
  refine event_step (w1:=World.alloc wd (.cells #[.int .i64 t,.int .i64 ((L.length:Int) + 1),.int .i64 o1,.int .i64 0,.int .i64 s.f1,.int .i64 2,.string s.f0,.string ver,.string strCall,.int .i64 y,.int .i64 0,.bool false,.slice none 0 0,.slice none 0 0] 74)) (v:=.slice (some ⟨wd.heap.size,0,none⟩) 1 1) (by rfl) (by go_simp) ?_
  have hHeld0:=hHeld
  refine hK.out _ _ (below_alloc hHeld _) (fun _=>?_)
  clear hHeld
  have hHeld:=hHeld0
  clear hHeld0
  clear hK K
  refine norm_ (a':=?_) ?_ ?_
  rotate_left
  ·show Act.put _ (some 204) _ = _
   simp only [Act.put,List.setIfInBounds_toArray,List.set_cons_zero,List.set_cons_succ,i64_w,i32_w]
   rfl
  have HX:=Aside0.mk (HM2.out.below hHeld)
  have HBX:=Aside0.mk (below_step HB2.out hHeld)
  refine last_ (i:=7) (N:=some 205) (bz 11 255) rfl rfl (one_of HT_.out (by kernel_rfl)) (by decide) (fun K hK=>?_)
  refine step_append_cells (w0:=w0) w0.heap.size (by rfl) (.tmp 202) (.tmp 204) 68 74 _ 14 168 rfl Tryz.underlying68 info74 rfl (by decide) (by decide) (.slice Av L.length cpv) L.length (spc L) (Sp.cells (⟨t,(L.length:Int) + 1,o1,0,s.f1,2,s.f0,ver,strCall,y,0,false⟩:Sp)) (by rfl) (by rfl) rfl ?c1 HX.out.own HBX.out HBX.out.size ?c3 ?_;(case c1=>intro u hu;simp [Sp.cells] at hu;rcases hu with rfl | rfl | rfl | rfl | rfl | rfl | rfl | rfl | rfl | rfl | rfl | rfl | rfl | rfl <;> rfl);(case c3=>omega)
  intro v6 w6 hown1 hb1 hg1 hat1
  obtain ⟨A6,c6,e6⟩:=own_slice hown1
  subst e6
  have HM1:=Aside0.mk (MkAt.grow (s:=(⟨t,(L.length:Int) + 1,o1,0,s.f1,2,s.f0,ver,strCall,y,0,false⟩:Sp)) HX.out hown1 hg1)
  have HK1:=Aside0.mk ((KeepM.of_below (v:=(.slice Av L.length cpv)) (gm:=gm) hHeld).trans (KeepM.grow hg1 hat1))
  have HB1:=Aside0.mk (hb1.setCell (p:=⟨gm,13,none⟩) hgm (.slice A6 (L.length + 1) c6))
  have hvv:=blk_grown HX.out.blk hg1 HX.out.nm
  have y1:=(blk_cell hvv 13).trans rfl
  have y2:=blk_frozen hvv 13
  clear hvv hown1 hb1 hg1 hat1 hHeld
  refine hK.out _ _ ?_
  clear hK K
  refine norm_ (a':=?_) ?_ ?_
  rotate_left
  ·show Act.put _ (some 205) _ = _
   simp only [Act.put,List.setIfInBounds_toArray,List.set_cons_zero,List.set_cons_succ,i64_w,i32_w]
   rfl
  refine pu_ 8 (some 206) (bz 11 511) HT_ rfl rfl ?_ (hQ:=fun _ _ _ h=>hQ _ _ _ _ _ h)
  refine pu_ 9 (some 207) (bz 11 1023) HT_ rfl rfl ?_ (hQ:=fun _ _ _ h=>hQ _ _ _ _ _ h)
  refine last_ (i:=10) (N:=none) (bz 11 2047) rfl rfl (one_of HT_.out (by kernel_rfl)) (by decide) (fun K hK=>?_)
  rw [if_pos (by rfl)]
  go_simp
  refine hK.out _ _ ?_
  clear hK K
  refine done_ (done_of HT_.out (by kernel_rfl)) ?_
  go_wp2
  go_meet
  exact ⟨rfl,_,HM1,⟨(KeepM.of_below HBC1.out).trans HK1.out⟩,HB1⟩
 case rest=>
 obtain ⟨rfl,v4,HM4,HK4,HB4⟩:=hcut
 have HG4:=Aside0.mk (HK4.out.other HM.out HG.out hgs (by decide))
 clear HC1 HM2 HB2 HBC1
 go_upto_region 25 with fail
 go_cut [25,26] (fun s25 s26 wz=>s25 = .int .i64 v1∧s26 = .bool v2∧∃ v':Value,Aside0 (MkAt wz gm w0.heap.size c ⟨A1,c1,A2,c2,A3,c3,A4,c4⟩ t L3 v')∧Aside0 (KeepM W0 (.slice Av L.length cpv) wz v' gm)∧Aside0 (Below w0.heap.size w0 wz))
 case first=>
  have m0:wc.cell? ⟨gm,0,none⟩ = some (.int .i64 c.seed):=(blk_cell HM4.out.blk 0).trans rfl
  have m1:wc.cell? ⟨gm,1,none⟩ = some (.slice A1 c.sv.length c1):=(blk_cell HM4.out.blk 1).trans rfl
  have m2:wc.cell? ⟨gm,2,none⟩ = some (.slice A2 c.off.length c2):=(blk_cell HM4.out.blk 2).trans rfl
  have m3:wc.cell? ⟨gm,3,none⟩ = some (.slice A3 c.ch.length c3):=(blk_cell HM4.out.blk 3).trans rfl
  have m4:wc.cell? ⟨gm,4,none⟩ = some (.slice A4 c.fl.length c4):=(blk_cell HM4.out.blk 4).trans rfl
  have m5:wc.cell? ⟨gm,5,none⟩ = some (.int .i64 c.sfrom):=(blk_cell HM4.out.blk 5).trans rfl
  have m6:wc.cell? ⟨gm,6,none⟩ = some (.int .i64 c.sto):=(blk_cell HM4.out.blk 6).trans rfl
  have m7:wc.cell? ⟨gm,7,none⟩ = some (.int .i64 c.per):=(blk_cell HM4.out.blk 7).trans rfl
  have m8:wc.cell? ⟨gm,8,none⟩ = some (.int .i64 c.delay):=(blk_cell HM4.out.blk 8).trans rfl
  have m9:wc.cell? ⟨gm,9,none⟩ = some (.int .i64 c.chunk):=(blk_cell HM4.out.blk 9).trans rfl
  have m10:wc.cell? ⟨gm,10,none⟩ = some (.int .i64 c.loss):=(blk_cell HM4.out.blk 10).trans rfl
  have m11:wc.cell? ⟨gm,11,none⟩ = some (.int .i64 c.rep):=(blk_cell HM4.out.blk 11).trans rfl
  have m12:wc.cell? ⟨gm,12,none⟩ = some (.int .i64 t):=(blk_cell HM4.out.blk 12).trans rfl
  have g5:wc.cell? ⟨gs,5,none⟩ = some (.slice (some ad5) s.f5.length c5):=(blk_cell HG4.out 5).trans rfl
  have e5:=HE5.out _ HB4.out
  have s2:IntKind.i64.wrap (c.delay + 1) = c.delay + 1:=IntWalk.i64_in _ (by omega)
  have s3:¬ (c.delay + 1 = 0):=by omega
  have s4:IntKind.i64.wrap (y + c.delay) = y + c.delay:=IntWalk.i64_in _ (by omega)
  have s5:(rollV c.seed t ((L.length:Int) + 1) 2).tmod (c.delay + 1) = rollV c.seed t ((L.length:Int) + 1) 2 % (c.delay + 1):=roll_tmod _ _ _ _ _
  have s6:IntKind.i64.wrap (y + c.delay + rollV c.seed t ((L.length:Int) + 1) 2 % (c.delay + 1)) = y + c.delay + rollV c.seed t ((L.length:Int) + 1) 2 % (c.delay + 1):=emod_wrap _ _ _ hd hd1 (by omega) (by omega)
  have s7:(0:Int) ≤ (i:Int):=by omega
  have s8:(i:Int) < (s.f5.length:Int):=by omega
  refine start_ (n:=43) (S:=fun w'=>Below wc.heap.size wc w') (ds:=[37]) (bz 43 0) (by kernel_rfl) rfl rfl (Below.refl _ _).drew (fun hHeld=>?_)
  refine with_tabW mkT.tab25 mkT.bits25 (fun HT_ HW_=>?_)
  generalize wc.drew = wd at hHeld ⊢
  refine pu_ 0 (some 209) (bz 43 1) HT_ rfl rfl ?_ (hQ:=fun _ _ _ h=>hQ _ _ _ _ _ h)
  refine pu_ 1 (some 210) (bz 43 3) HT_ rfl rfl ?_ (hQ:=fun _ _ _ h=>hQ _ _ _ _ _ h)
  refine pu_ 2 (some 211) (bz 43 7) HT_ rfl rfl ?_ (hQ:=fun _ _ _ h=>hQ _ _ _ _ _ h)
  refine pu_ 3 (some 212) (bz 43 15) HT_ rfl rfl ?_ (hQ:=fun _ _ _ h=>hQ _ _ _ _ _ h)
  refine tk_ 4 (some 213) (bz 43 31) HT_ HW_ rfl rfl hHeld ?_ (by intro w' hS;replace m0:=below_at hS m0;replace m1:=below_at hS m1;replace m2:=below_at hS m2;replace m3:=below_at hS m3;replace m4:=below_at hS m4;replace m5:=below_at hS m5;replace m6:=below_at hS m6;replace m7:=below_at hS m7;replace m8:=below_at hS m8;replace m9:=below_at hS m9;replace m10:=below_at hS m10;replace m11:=below_at hS m11;go_simp;with_reducible rfl) (hQ:=fun _ _ _ h=>hQ _ _ _ _ _ h)
  refine pu_ 5 (some 214) (bz 43 63) HT_ rfl rfl ?_ (hQ:=fun _ _ _ h=>hQ _ _ _ _ _ h)
  refine tk_ 6 (some 215) (bz 43 127) HT_ HW_ rfl rfl hHeld ?_ (by intro w' hS;replace g5:=below_at hS g5;go_simp;with_reducible rfl) (hQ:=fun _ _ _ h=>hQ _ _ _ _ _ h)
  refine pu_ 7 (some 216) (bz 43 255) HT_ rfl rfl ?_ (hQ:=fun _ _ _ h=>hQ _ _ _ _ _ h)
  refine pu_ 8 (some 217) (bz 43 511) HT_ rfl rfl ?_ (hQ:=fun _ _ _ h=>hQ _ _ _ _ _ h)
  refine tk_ 9 (some 218) (bz 43 1023) HT_ HW_ rfl rfl hHeld ?_ (by intro w' hS;replace e5:=below_at hS e5;go_simp;with_reducible rfl) (hQ:=fun _ _ _ h=>hQ _ _ _ _ _ h)
  refine pu_ 11 (some 220) (bz 43 3071) HT_ rfl rfl ?_ (hQ:=fun _ _ _ h=>hQ _ _ _ _ _ h)
  refine pu_ 12 (some 221) (bz 43 7167) HT_ rfl rfl ?_ (hQ:=fun _ _ _ h=>hQ _ _ _ _ _ h)
  refine pu_ 13 (some 222) (bz 43 15359) HT_ rfl rfl ?_ (hQ:=fun _ _ _ h=>hQ _ _ _ _ _ h)
  refine pu_ 14 (some 223) (bz 43 31743) HT_ rfl rfl ?_ (hQ:=fun _ _ _ h=>hQ _ _ _ _ _ h)
  refine pu_ 15 (some 224) (bz 43 64511) HT_ rfl rfl ?_ (hQ:=fun _ _ _ h=>hQ _ _ _ _ _ h)
  refine pu_ 16 (some 225) (bz 43 130047) HT_ rfl rfl ?_ (hQ:=fun _ _ _ h=>hQ _ _ _ _ _ h)
  refine tk_ 17 (some 226) (bz 43 261119) HT_ HW_ rfl rfl hHeld ?_ (by intro w' hS;replace m8:=below_at hS m8;go_simp;with_reducible rfl) (hQ:=fun _ _ _ h=>hQ _ _ _ _ _ h)
  refine pu_ 18 (some 227) (bz 43 523263) HT_ rfl rfl ?_ (hQ:=fun _ _ _ h=>hQ _ _ _ _ _ h)
  refine pu_ 19 (some 228) (bz 43 1047551) HT_ rfl rfl ?_ (hQ:=fun _ _ _ h=>hQ _ _ _ _ _ h)
  refine pu_ 20 (some 229) (bz 43 2096127) HT_ rfl rfl ?_ (hQ:=fun _ _ _ h=>hQ _ _ _ _ _ h)
  refine pu_ 21 (some 230) (bz 43 4193279) HT_ rfl rfl ?_ (hQ:=fun _ _ _ h=>hQ _ _ _ _ _ h)
  refine tk_ 22 (some 231) (bz 43 8387583) HT_ HW_ rfl rfl hHeld ?_ (by intro w' hS;replace m0:=below_at hS m0;replace m1:=below_at hS m1;replace m2:=below_at hS m2;replace m3:=below_at hS m3;replace m4:=below_at hS m4;replace m5:=below_at hS m5;replace m6:=below_at hS m6;replace m7:=below_at hS m7;replace m8:=below_at hS m8;replace m9:=below_at hS m9;replace m10:=below_at hS m10;replace m11:=below_at hS m11;go_simp;with_reducible rfl) (hQ:=fun _ _ _ h=>hQ _ _ _ _ _ h)
  refine pu_ 23 (some 232) (bz 43 16776191) HT_ rfl rfl ?_ (hQ:=fun _ _ _ h=>hQ _ _ _ _ _ h)
  refine pu_ 24 (some 233) (bz 43 33553407) HT_ rfl rfl ?_ (hQ:=fun _ _ _ h=>hQ _ _ _ _ _ h)
  refine pu_ 25 (some 234) (bz 43 67107839) HT_ rfl rfl ?_ (hQ:=fun _ _ _ h=>hQ _ _ _ _ _ h)
  refine tk_ 26 (some 235) (bz 43 134216703) HT_ HW_ rfl rfl hHeld ?_ (by intro w' hS;replace m12:=below_at hS m12;go_simp;with_reducible rfl) (hQ:=fun _ _ _ h=>hQ _ _ _ _ _ h)
  refine pu_ 27 (some 236) (bz 43 268434431) HT_ rfl rfl ?_ (hQ:=fun _ _ _ h=>hQ _ _ _ _ _ h)
  refine pu_ 29 (some 238) (bz 43 805305343) HT_ rfl rfl ?_ (hQ:=fun _ _ _ h=>hQ _ _ _ _ _ h)
  refine pu_ 30 (some 239) (bz 43 1879047167) HT_ rfl rfl ?_ (hQ:=fun _ _ _ h=>hQ _ _ _ _ _ h)
  refine pu_ 31 (some 240) (bz 43 4026530815) HT_ rfl rfl ?_ (hQ:=fun _ _ _ h=>hQ _ _ _ _ _ h)
  refine pu_ 32 (some 241) (bz 43 8321498111) HT_ rfl rfl ?_ (hQ:=fun _ _ _ h=>hQ _ _ _ _ _ h)
  refine tk_ 33 (some 242) (bz 43 16911432703) HT_ HW_ rfl rfl hHeld ?_ (by intro w' hS;replace m8:=below_at hS m8;go_simp;with_reducible rfl) (hQ:=fun _ _ _ h=>hQ _ _ _ _ _ h)
  refine pu_ 34 (some 243) (bz 43 34091301887) HT_ rfl rfl ?_ (hQ:=fun _ _ _ h=>hQ _ _ _ _ _ h)
  refine one_ (i:=10) (N:=some 219) (bz 43 34091302911) rfl rfl (one_of HT_.out (by kernel_rfl)) (by decide) (fun K hK=>?_)
  refine goes_ Tryz.func70 (by kernel_rfl) rfl #[c.val ⟨A1,c1,A2,c2,A3,c3,A4,c4⟩,.string nm] (by rfl) rfl rfl (by (try simp only [List.map_toArray,List.map_cons,List.map_nil]);first | done | rfl) ?_
  with_reducible refine (mindex_calls c ⟨A1,c1,A2,c2,A3,c3,A4,c4⟩ nm _ (HCF.out _ (below_step HB4.out hHeld))).mono ?_
  rintro e wx ⟨rfl,hb⟩
  refine ⟨_,rfl,?_⟩
  replace hHeld:=below_step hHeld hb
  clear hb
  refine hK.out _ _ hHeld (fun hHeld=>?_)
  clear hK K
  refine norm_ (a':=?_) ?_ ?_
  rotate_left
  ·show Act.put _ (some 219) _ = _
   simp only [Act.put,List.setIfInBounds_toArray,List.set_cons_zero,List.set_cons_succ,i64_w,i32_w]
   rfl
  refine one_ (i:=28) (N:=some 237) (bz 43 34359738367) rfl rfl (one_of HT_.out (by kernel_rfl)) (by decide) (fun K hK=>?_)
  refine goes_ Tryz.func27 (by kernel_rfl) rfl #[c.val ⟨A1,c1,A2,c2,A3,c3,A4,c4⟩,.int .i64 t,.int .i64 ((L.length:Int) + 1),.int .i64 2] (by rfl) rfl rfl (by (try simp only [List.map_toArray,List.map_cons,List.map_nil]);first | done | rfl) ?_
  with_reducible refine (mroll_calls c ⟨A1,c1,A2,c2,A3,c3,A4,c4⟩ t ((L.length:Int) + 1) 2 _ (HCF.out _ (below_step HB4.out hHeld))).mono ?_
  rintro e wx ⟨rfl,hb⟩
  refine ⟨_,rfl,?_⟩
  replace hHeld:=below_step hHeld hb
  clear hb
  refine hK.out _ _ hHeld (fun hHeld=>?_)
  clear hK K
  refine norm_ (a':=?_) ?_ ?_
  rotate_left
  ·show Act.put _ (some 237) _ = _
   simp only [Act.put,List.setIfInBounds_toArray,List.set_cons_zero,List.set_cons_succ,i64_w,i32_w]
   rfl
  refine pu_ 35 (some 244) (bz 43 68719476735) HT_ rfl rfl ?_ (hQ:=fun _ _ _ h=>hQ _ _ _ _ _ h)
  refine pu_ 36 (some 245) (bz 43 137438953471) HT_ rfl rfl ?_ (hQ:=fun _ _ _ h=>hQ _ _ _ _ _ h)
  refine last_ (i:=37) (N:=some 246) (bz 43 274877906943) rfl rfl (one_of HT_.out (by kernel_rfl)) (by decide) (fun K hK=>?_)
  refine call_ 41 #[.pointer (some ⟨gm,0,none⟩),.int .i64 (svIdx c.sv nm),.int .i64 ((L.length:Int) + 1),.int .i64 (y + c.delay + rollV c.seed t ((L.length:Int) + 1) 2 % (c.delay + 1))] (by rfl) rfl ?_ ?_
  ·have he:=enters_ (P:=Tryz.prog) Tryz.func41 (by kernel_rfl) rfl #[.pointer (some ⟨gm,0,none⟩),.int .i64 (svIdx c.sv nm),.int .i64 ((L.length:Int) + 1),.int .i64 (y + c.delay + rollV c.seed t ((L.length:Int) + 1) 2 % (c.delay + 1))]
   unfold execOp
   simp [resolve,Deferred.ofValue,invoke,Act.eval,he]
  have HKX:=Aside0.mk (KeepM.of_below (v:=v4) (gm:=gm) hHeld)
  refine (IH.out _ _ (HM4.out.below hHeld) (below_step HB4.out hHeld)).mono ?_
  rintro e w5 ⟨rfl,v7,HM5,HK5,HB5⟩
  refine ⟨_,rfl,?_⟩
  have HR5:=Aside0.mk (And.intro HM5 (And.intro (HKX.out.trans HK5) HB5))
  clear hHeld HKX HM5 HK5 HB5
  refine hK.out _ _ ?_
  clear hK K
  refine norm_ (a':=?_) ?_ ?_
  rotate_left
  ·show Act.put _ (some 246) _ = _
   simp only [Act.put,List.setIfInBounds_toArray,List.set_cons_zero,List.set_cons_succ,i64_w,i32_w]
   rfl
  refine pu_ 38 (some 208) (bz 43 549755813887) HT_ rfl rfl ?_ (hQ:=fun _ _ _ h=>hQ _ _ _ _ _ h)
  refine pu_ 39 (some 247) (bz 43 1099511627775) HT_ rfl rfl ?_ (hQ:=fun _ _ _ h=>hQ _ _ _ _ _ h)
  refine pu_ 40 (some 248) (bz 43 2199023255551) HT_ rfl rfl ?_ (hQ:=fun _ _ _ h=>hQ _ _ _ _ _ h)
  refine pu_ 41 (some 25) (bz 43 4398046511103) HT_ rfl rfl ?_ (hQ:=fun _ _ _ h=>hQ _ _ _ _ _ h)
  refine pu_ 42 (some 26) (bz 43 8796093022207) HT_ rfl rfl ?_ (hQ:=fun _ _ _ h=>hQ _ _ _ _ _ h)
  refine done_ (done_of HT_.out (by kernel_rfl)) ?_
  go_wp2
  go_meet
  exact ⟨rfl,rfl,v7,⟨HR5.out.1⟩,⟨HK4.out.trans HR5.out.2.1⟩,⟨HR5.out.2.2⟩⟩
 case rest=>
 obtain ⟨rfl,rfl,v5,HM5,HK5,HB5⟩:=hcut
 clear HM4 HK4 HB4 HG4 IH HE5
 go_upto_region 26 with fail
 obtain ⟨WC,rfl⟩:∃ W:World,W = wc:=⟨_,rfl⟩
 go_cut [21] (fun s21 wz=>s21 = .int .i64 (v1 + c.delay + rollV c.seed t ((L.length:Int) + 1) 3 % (c.delay + 1))∧Aside0 (Below WC.heap.size WC wz))
 case first=>
  have m0:WC.cell? ⟨gm,0,none⟩ = some (.int .i64 c.seed):=(blk_cell HM5.out.blk 0).trans rfl
  have m1:WC.cell? ⟨gm,1,none⟩ = some (.slice A1 c.sv.length c1):=(blk_cell HM5.out.blk 1).trans rfl
  have m2:WC.cell? ⟨gm,2,none⟩ = some (.slice A2 c.off.length c2):=(blk_cell HM5.out.blk 2).trans rfl
  have m3:WC.cell? ⟨gm,3,none⟩ = some (.slice A3 c.ch.length c3):=(blk_cell HM5.out.blk 3).trans rfl
  have m4:WC.cell? ⟨gm,4,none⟩ = some (.slice A4 c.fl.length c4):=(blk_cell HM5.out.blk 4).trans rfl
  have m5:WC.cell? ⟨gm,5,none⟩ = some (.int .i64 c.sfrom):=(blk_cell HM5.out.blk 5).trans rfl
  have m6:WC.cell? ⟨gm,6,none⟩ = some (.int .i64 c.sto):=(blk_cell HM5.out.blk 6).trans rfl
  have m7:WC.cell? ⟨gm,7,none⟩ = some (.int .i64 c.per):=(blk_cell HM5.out.blk 7).trans rfl
  have m8:WC.cell? ⟨gm,8,none⟩ = some (.int .i64 c.delay):=(blk_cell HM5.out.blk 8).trans rfl
  have m9:WC.cell? ⟨gm,9,none⟩ = some (.int .i64 c.chunk):=(blk_cell HM5.out.blk 9).trans rfl
  have m10:WC.cell? ⟨gm,10,none⟩ = some (.int .i64 c.loss):=(blk_cell HM5.out.blk 10).trans rfl
  have m11:WC.cell? ⟨gm,11,none⟩ = some (.int .i64 c.rep):=(blk_cell HM5.out.blk 11).trans rfl
  have m12:WC.cell? ⟨gm,12,none⟩ = some (.int .i64 t):=(blk_cell HM5.out.blk 12).trans rfl
  have s2:IntKind.i64.wrap (c.delay + 1) = c.delay + 1:=IntWalk.i64_in _ (by omega)
  have s3:¬ (c.delay + 1 = 0):=by omega
  have s4:IntKind.i64.wrap (v1 + c.delay) = v1 + c.delay:=IntWalk.i64_in _ (by omega)
  have s5:(rollV c.seed t ((L.length:Int) + 1) 3).tmod (c.delay + 1) = rollV c.seed t ((L.length:Int) + 1) 3 % (c.delay + 1):=roll_tmod _ _ _ _ _
  have s6:IntKind.i64.wrap (v1 + c.delay + rollV c.seed t ((L.length:Int) + 1) 3 % (c.delay + 1)) = v1 + c.delay + rollV c.seed t ((L.length:Int) + 1) 3 % (c.delay + 1):=emod_wrap _ _ _ hd hd1 (by omega) (by omega)
  refine start_ (n:=26) (S:=fun w'=>Below WC.heap.size WC w') (ds:=[]) (bz 26 0) (by kernel_rfl) rfl rfl (Below.refl _ _).drew (fun hHeld=>?_)
  refine with_tabW mkT.tab26 mkT.bits26 (fun HT_ HW_=>?_)
  generalize WC.drew = wd at hHeld ⊢
  refine pu_ 0 (some 249) (bz 26 1) HT_ rfl rfl ?_ (hQ:=fun _ _ _ h=>hQ _ _ _ _ _ h)
  refine pu_ 1 (some 250) (bz 26 3) HT_ rfl rfl ?_ (hQ:=fun _ _ _ h=>hQ _ _ _ _ _ h)
  refine pu_ 2 (some 251) (bz 26 7) HT_ rfl rfl ?_ (hQ:=fun _ _ _ h=>hQ _ _ _ _ _ h)
  refine pu_ 3 (some 252) (bz 26 15) HT_ rfl rfl ?_ (hQ:=fun _ _ _ h=>hQ _ _ _ _ _ h)
  refine pu_ 4 (some 253) (bz 26 31) HT_ rfl rfl ?_ (hQ:=fun _ _ _ h=>hQ _ _ _ _ _ h)
  refine tk_ 5 (some 254) (bz 26 63) HT_ HW_ rfl rfl hHeld ?_ (by intro w' hS;replace m8:=below_at hS m8;go_simp;with_reducible rfl) (hQ:=fun _ _ _ h=>hQ _ _ _ _ _ h)
  refine pu_ 6 (some 255) (bz 26 127) HT_ rfl rfl ?_ (hQ:=fun _ _ _ h=>hQ _ _ _ _ _ h)
  refine pu_ 7 (some 256) (bz 26 255) HT_ rfl rfl ?_ (hQ:=fun _ _ _ h=>hQ _ _ _ _ _ h)
  refine pu_ 8 (some 257) (bz 26 511) HT_ rfl rfl ?_ (hQ:=fun _ _ _ h=>hQ _ _ _ _ _ h)
  refine pu_ 9 (some 258) (bz 26 1023) HT_ rfl rfl ?_ (hQ:=fun _ _ _ h=>hQ _ _ _ _ _ h)
  refine tk_ 10 (some 259) (bz 26 2047) HT_ HW_ rfl rfl hHeld ?_ (by intro w' hS;replace m0:=below_at hS m0;replace m1:=below_at hS m1;replace m2:=below_at hS m2;replace m3:=below_at hS m3;replace m4:=below_at hS m4;replace m5:=below_at hS m5;replace m6:=below_at hS m6;replace m7:=below_at hS m7;replace m8:=below_at hS m8;replace m9:=below_at hS m9;replace m10:=below_at hS m10;replace m11:=below_at hS m11;go_simp;with_reducible rfl) (hQ:=fun _ _ _ h=>hQ _ _ _ _ _ h)
  refine pu_ 11 (some 260) (bz 26 4095) HT_ rfl rfl ?_ (hQ:=fun _ _ _ h=>hQ _ _ _ _ _ h)
  refine pu_ 12 (some 261) (bz 26 8191) HT_ rfl rfl ?_ (hQ:=fun _ _ _ h=>hQ _ _ _ _ _ h)
  refine pu_ 13 (some 262) (bz 26 16383) HT_ rfl rfl ?_ (hQ:=fun _ _ _ h=>hQ _ _ _ _ _ h)
  refine tk_ 14 (some 263) (bz 26 32767) HT_ HW_ rfl rfl hHeld ?_ (by intro w' hS;replace m12:=below_at hS m12;go_simp;with_reducible rfl) (hQ:=fun _ _ _ h=>hQ _ _ _ _ _ h)
  refine pu_ 15 (some 264) (bz 26 65535) HT_ rfl rfl ?_ (hQ:=fun _ _ _ h=>hQ _ _ _ _ _ h)
  refine pu_ 17 (some 266) (bz 26 196607) HT_ rfl rfl ?_ (hQ:=fun _ _ _ h=>hQ _ _ _ _ _ h)
  refine pu_ 18 (some 267) (bz 26 458751) HT_ rfl rfl ?_ (hQ:=fun _ _ _ h=>hQ _ _ _ _ _ h)
  refine pu_ 19 (some 268) (bz 26 983039) HT_ rfl rfl ?_ (hQ:=fun _ _ _ h=>hQ _ _ _ _ _ h)
  refine pu_ 20 (some 269) (bz 26 2031615) HT_ rfl rfl ?_ (hQ:=fun _ _ _ h=>hQ _ _ _ _ _ h)
  refine tk_ 21 (some 270) (bz 26 4128767) HT_ HW_ rfl rfl hHeld ?_ (by intro w' hS;replace m8:=below_at hS m8;go_simp;with_reducible rfl) (hQ:=fun _ _ _ h=>hQ _ _ _ _ _ h)
  refine pu_ 22 (some 271) (bz 26 8323071) HT_ rfl rfl ?_ (hQ:=fun _ _ _ h=>hQ _ _ _ _ _ h)
  refine one_ (i:=16) (N:=some 265) (bz 26 8388607) rfl rfl (one_of HT_.out (by kernel_rfl)) (by decide) (fun K hK=>?_)
  refine goes_ Tryz.func27 (by kernel_rfl) rfl #[c.val ⟨A1,c1,A2,c2,A3,c3,A4,c4⟩,.int .i64 t,.int .i64 ((L.length:Int) + 1),.int .i64 3] (by rfl) rfl rfl (by (try simp only [List.map_toArray,List.map_cons,List.map_nil]);first | done | rfl) ?_
  with_reducible refine (mroll_calls c ⟨A1,c1,A2,c2,A3,c3,A4,c4⟩ t ((L.length:Int) + 1) 3 _ (HCF.out _ (below_step HB5.out hHeld))).mono ?_
  rintro e wx ⟨rfl,hb⟩
  refine ⟨_,rfl,?_⟩
  replace hHeld:=below_step hHeld hb
  clear hb
  refine hK.out _ _ hHeld (fun hHeld=>?_)
  clear hK K
  refine norm_ (a':=?_) ?_ ?_
  rotate_left
  ·show Act.put _ (some 265) _ = _
   simp only [Act.put,List.setIfInBounds_toArray,List.set_cons_zero,List.set_cons_succ,i64_w,i32_w]
   rfl
  refine pu_ 23 (some 272) (bz 26 16777215) HT_ rfl rfl ?_ (hQ:=fun _ _ _ h=>hQ _ _ _ _ _ h)
  refine pu_ 24 (some 273) (bz 26 33554431) HT_ rfl rfl ?_ (hQ:=fun _ _ _ h=>hQ _ _ _ _ _ h)
  refine pu_ 25 (some 21) (bz 26 67108863) HT_ rfl rfl ?_ (hQ:=fun _ _ _ h=>hQ _ _ _ _ _ h)
  refine done_ (done_of HT_.out (by kernel_rfl)) ?_
  go_wp2
  go_meet
  exact ⟨rfl,⟨hHeld⟩⟩
 case rest=>
 obtain ⟨rfl,HB6⟩:=hcut
 have HM6:=Aside0.mk (HM5.out.below HB6.out)
 have HK6:=Aside0.mk (HK5.out.trans (KeepM.of_below HB6.out))
 have HB7:=Aside0.mk (below_step HB5.out HB6.out)
 clear HM5 HK5 HB5 HB6 HCF
 obtain ⟨yy,hyy⟩:∃ yy:Int,yy = (v1 + c.delay + rollV c.seed t ((L.length:Int) + 1) 3 % (c.delay + 1)):=⟨_,rfl⟩
 rw [← hyy] at HKK ⊢
 clear hyy
 go_upto_region 27 with fail
 go_cut [21] (fun s21 wz=>s21 = .int .i64 yy∧∃ v':Value,Aside0 (MkAt wz gm w0.heap.size c ⟨A1,c1,A2,c2,A3,c3,A4,c4⟩ t (setEnd L3 L.length yy v2) v')∧Aside0 (KeepM W0 (.slice Av L.length cpv) wz v' gm)∧Aside0 (Below w0.heap.size w0 wz))
 case first=>
  have m13:wc.cell? ⟨gm,13,none⟩ = some v5:=(blk_cell HM6.out.blk 13).trans rfl
  have z1:IntKind.i64.wrap ((L.length:Int) + 1 - 1) = (L.length:Int):=by rw [show (L.length:Int) + 1 - 1 = (L.length:Int) from by omega];exact IntWalk.i64_in _ (by omega)
  have z5:IntKind.i64.wrap (L.length:Int) = (L.length:Int):=IntWalk.i64_in _ (by omega)
  have z2:(0:Int) ≤ (L.length:Int):=by omega
  have z4:(L.length:Int) < (L3.length:Int):=by omega
  refine start_ (n:=20) (S:=fun w'=>Below wc.heap.size wc w') (ds:=[16,19]) (bz 20 0) (by kernel_rfl) rfl rfl (Below.refl _ _).drew (fun hHeld=>?_)
  refine with_tabW mkT.tab27 mkT.bits27 (fun HT_ HW_=>?_)
  generalize wc.drew = wd at hHeld ⊢
  have HX:=Aside0.mk (HM6.out.below hHeld)
  have HKX:=Aside0.mk (KeepM.of_below (v:=v5) (gm:=gm) hHeld)
  have HBX:=Aside0.mk (below_step HB7.out hHeld)
  obtain ⟨r,cp,ev,e1,e2,f1,f2,hbr,hgr⟩:=HX.out.opened L.length hL3
  subst ev
  refine pu_ 0 (some 274) (bz 20 1) HT_ rfl rfl ?_ (hQ:=fun _ _ _ h=>hQ _ _ _ _ _ h)
  refine pu_ 1 (some 275) (bz 20 3) HT_ rfl rfl ?_ (hQ:=fun _ _ _ h=>hQ _ _ _ _ _ h)
  refine pu_ 2 (some 276) (bz 20 7) HT_ rfl rfl ?_ (hQ:=fun _ _ _ h=>hQ _ _ _ _ _ h)
  refine tk_ 3 (some 277) (bz 20 15) HT_ HW_ rfl rfl hHeld ?_ (by intro w' hS;replace m13:=below_at hS m13;go_simp;with_reducible rfl) (hQ:=fun _ _ _ h=>hQ _ _ _ _ _ h)
  refine pu_ 4 (some 278) (bz 20 31) HT_ rfl rfl ?_ (hQ:=fun _ _ _ h=>hQ _ _ _ _ _ h)
  refine pu_ 5 (some 279) (bz 20 63) HT_ rfl rfl ?_ (hQ:=fun _ _ _ h=>hQ _ _ _ _ _ h)
  refine pu_ 6 (some 280) (bz 20 127) HT_ rfl rfl ?_ (hQ:=fun _ _ _ h=>hQ _ _ _ _ _ h)
  refine pu_ 7 (some 281) (bz 20 255) HT_ rfl rfl ?_ (hQ:=fun _ _ _ h=>hQ _ _ _ _ _ h)
  refine pu_ 8 (some 282) (bz 20 511) HT_ rfl rfl ?_ (hQ:=fun _ _ _ h=>hQ _ _ _ _ _ h)
  refine tk_ 9 (some 283) (bz 20 1023) HT_ HW_ rfl rfl hHeld ?_ (by intro w' hS;replace m13:=below_at hS m13;go_simp;with_reducible rfl) (hQ:=fun _ _ _ h=>hQ _ _ _ _ _ h)
  refine pu_ 10 (some 284) (bz 20 2047) HT_ rfl rfl ?_ (hQ:=fun _ _ _ h=>hQ _ _ _ _ _ h)
  refine pu_ 11 (some 285) (bz 20 4095) HT_ rfl rfl ?_ (hQ:=fun _ _ _ h=>hQ _ _ _ _ _ h)
  refine pu_ 12 (some 286) (bz 20 8191) HT_ rfl rfl ?_ (hQ:=fun _ _ _ h=>hQ _ _ _ _ _ h)
  refine pu_ 13 (some 287) (bz 20 16383) HT_ rfl rfl ?_ (hQ:=fun _ _ _ h=>hQ _ _ _ _ _ h)
  refine pu_ 14 (some 288) (bz 20 32767) HT_ rfl rfl ?_ (hQ:=fun _ _ _ h=>hQ _ _ _ _ _ h)
  refine pu_ 15 (some 289) (bz 20 65535) HT_ rfl rfl ?_ (hQ:=fun _ _ _ h=>hQ _ _ _ _ _ h)
  refine last_ (i:=16) (N:=none) (bz 20 131071) rfl rfl (one_of HT_.out (by kernel_rfl)) (by decide) (fun K hK=>?_)
  rw [if_pos (by rfl)]
  go_simp
  refine hK.out _ _ ?_
  clear hK K
  refine pu_ 17 (some 290) (bz 20 262143) HT_ rfl rfl ?_ (hQ:=fun _ _ _ h=>hQ _ _ _ _ _ h)
  refine pu_ 18 (some 291) (bz 20 524287) HT_ rfl rfl ?_ (hQ:=fun _ _ _ h=>hQ _ _ _ _ _ h)
  refine last_ (i:=19) (N:=none) (bz 20 1048575) rfl rfl (one_of HT_.out (by kernel_rfl)) (by decide) (fun K hK=>?_)
  rw [if_pos (by rfl)]
  go_simp
  refine hK.out _ _ ?_
  clear hK K
  refine done_ (done_of HT_.out (by kernel_rfl)) ?_
  go_wp2
  go_meet
  exact ⟨rfl,_,⟨MkAt.stores HX.out hgr L.length hL3 _ _⟩,⟨(HK6.out.trans HKX.out).trans (KeepM.stores _ _ _ _)⟩,⟨(HBX.out.setCell hbr _).setCell hbr _⟩⟩
 case rest=>
 obtain ⟨rfl,v8,HM8,HK8,HB8⟩:=hcut
 clear HM6 HK6 HB7
 cases bf
 ·go_wp2_with fail
  refine HKK.out ?_
  exact ⟨rfl,rfl,v8,HM8,HK8,HB8⟩
 ·go_wp2_with fail
  refine HKK.out ?_
  exact ⟨rfl,rfl,v8,HM8,HK8,HB8⟩
end Go.Proofs.YtdadnapfecmmdaaGreat.P
