/- Own texts of a proof about layer 55's simulate (merged): Ss, Po. -/
import Derived.Test.YtdadnapfecmmdaaGreatXs10
import Derived.Test.YtdadnapfecmmdaaGreatXs18
import Derived.Test.YtdadnapfecmmdaaGreatXs22
import Derived.Test.YtdadnapfecmmdaaGreatXs23
import Derived.Test.YtdadnapfecmmdaaGreatXs24
import Derived.Test.YtdadnapfecmmdaaGreatXs3
import Derived.Test.YtdadnapfecmmdaaGreatXs5
import Derived.WalkKit
import Derived.ProofKit
import Derived.OpenShut
import Derived.ChangeOld
import Derived.Deep.Slices
namespace Go.Proofs.YtdadnapfecmmdaaGreat.P
set_option linter.unusedVariables false
set_option linter.unusedSimpArgs false
open Go.RowKit Go.Proofs.YtdadnapfecmmdaaGreatW.PrintWords Go.Proofs.YtdadnapfecmmdaaGreatW.PrintLast Go.Proofs.YtdadnapfecmmdaaGreatW.PrintMore
open Go.Proofs.YtdadnapfecmmdaaGreat.Hm
theorem frs_mem (k:Int) (n:Nat) (hn:0 < n):∀ (m:Nat) (l:List Sp) (seq:Int),l.length ≤ m→∀ f ∈ frs k n seq l,0 < f.l.length∧f.l.length ≤ n
 | 0,l,seq,h,f,hf=>by
  obtain rfl:=List.eq_nil_of_length_eq_zero (by omega:l.length = 0)
  rw [frs_nil] at hf;cases hf
 | m + 1,l,seq,h,f,hf=>by
  by_cases hl:l = []
  ·subst hl;rw [frs_nil] at hf;cases hf
  ·have h0:0 < l.length:=List.length_pos_iff.mpr hl
   rw [frs_cons k n seq l hl hn] at hf
   rcases List.mem_cons.mp hf with rfl | hf
   ·simp only [List.length_take];omega
   ·exact frs_mem k n hn m (l.drop n) (seq + 1) (by rw [List.length_drop];omega) f hf
theorem sentL_mem (n:Nat) (hn:0 < n) (ts:List Tr) (ks:List Int):∀ f ∈ sentL n ts ks,0 < f.l.length∧f.l.length ≤ n:=by
 intro f hf
 obtain ⟨k,_,hk⟩:=List.mem_flatMap.mp hf
 exact frs_mem k n hn _ _ _ (Nat.le_refl _) f hk
structure Four (c:Cfg) (L M:List Fr):Prop where
 s5:∀ W p,CfgR W p c→Calls Tryz.prog 5 #[c.val p] W fun e w'=>∃ v,e = .returned (.tuple #[v,.int .i64 0])∧FsOut W.heap.size w' L v∧Below W.heap.size W w'
 s6:∀ W p,CfgR W p c→Calls Tryz.prog 6 #[c.val p] W fun e w'=>∃ v,e = .returned (.tuple #[v,.int .i64 0])∧FsOut W.heap.size w' M v∧Below W.heap.size W w'
 s9:∀ W p,CfgR W p c→Calls Tryz.prog 9 #[c.val p] W fun e w'=>∃ v,e = .returned v∧FsOut W.heap.size w' L v∧Below W.heap.size W w'
 s10:∀ W p,CfgR W p c→Calls Tryz.prog 10 #[c.val p] W fun e w'=>∃ A cp,e = .returned (.slice A M.length cp)∧FrRd w' A M∧Below W.heap.size W w'
 lL:L.length ≤ 10000000
 lM:M.length ≤ 20000000
theorem plan_four (p:Plan) (hok:PlanOk p):∃ L M,Four (p.cfg chgs47) L M:=by
 have hck:=ckAll_ok (cfg_valid p hok) 0
 have hts:=plan_traces p hok (shiftSp (p.cfg chgs47).off) 110 (Nat.le_refl _)
 have hsy:=plan_sys p hok
 have hsf:0 ≤ (p.cfg chgs47).sfrom:=by have:=hok.first;show 0 ≤ p.first % 8;omega
 have hst:(p.cfg chgs47).sto ≤ 100:=by show p.first % 8 + p.slots % 4 ≤ 100;omega
 have hss:(p.cfg chgs47).sfrom ≤ (p.cfg chgs47).sto:=by show p.first % 8 ≤ p.first % 8 + p.slots % 4;omega
 have hpr:(p.cfg chgs47).per ≤ 10:=by show p.per % 3 ≤ 10;omega
 have hp0:0 ≤ (p.cfg chgs47).per:=by show 0 ≤ p.per % 3;omega
 have hc0:1 ≤ (p.cfg chgs47).chunk:=by show 1 ≤ 1 + p.chunk % 8;omega
 have hc1:(p.cfg chgs47).chunk ≤ 64:=by show 1 + p.chunk % 8 ≤ 64;omega
 have ho3:(p.cfg chgs47).off.length ≤ 3:=Nat.le_refl 3
 have hoo:(p.cfg chgs47).off.map (·.f0) = [1,2,3]:=rfl
 have hcc:∀ k ∈ (p.cfg chgs47).sv.map (·.f1),k ∈ (p.cfg chgs47).off.map (·.f0):=by
  intro k hk
  rw [hoo]
  obtain ⟨s,hs,rfl⟩:=List.mem_map.mp hk
  obtain ⟨i,hi,rfl⟩:=List.getElem_of_mem hs
  have e:(p.cfg chgs47).sv[i].f1 = 1 + (rd_T47 p.ps i).f0 % 3:=by
   have:=sv_get p i hi
   show p.sv[i].f1 = _
   rw [this];rfl
  rw [e]
  have:(rd_T47 p.ps i).f0 % 3 = 0 ∨ (rd_T47 p.ps i).f0 % 3 = 1 ∨ (rd_T47 p.ps i).f0 % 3 = 2:=by omega
  rcases this with h | h | h <;> rw [h] <;> decide
 generalize p.cfg chgs47 = c at *
 have hpw:(c.off.map (·.f0)).Pairwise (· < ·):=by rw [hoo];decide
 obtain ⟨n,hn⟩:∃ n:Nat,n = c.chunk.toNat:=⟨_,rfl⟩
 have hnc:c.chunk = (n:Int):=by omega
 have hlt0:(tracesI c id).length ≤ 10000:=by
  have h1:=tracesI_len c hss hp0
  have h2:c.per * (c.sto - c.sfrom) ≤ 10 * (c.sto - c.sfrom):=Int.mul_le_mul_of_nonneg_right hpr (by omega)
  omega
 have hcn:cntOf c.sv ≤ 160:=by
  have h2:=cAt_le hsy 0
  have h3:cntOf c.sv = cAt c.sv 0:=by
   have:=hsy.n0
   unfold cntOf cAt
   rw [List.drop_zero,show (0:Int) = ((0:Nat):Int) from rfl,rd_T51_get _ 0 (by omega),hsy.name 0 (by omega)]
  omega
 have hsh:=tracesI_shift c (shiftSp c.off)
 have hln:∀ x ∈ tracesI c (shiftSp c.off),x.l.length ≤ 160:=by
  rw [hsh]
  intro x hx
  obtain ⟨y,hy,rfl⟩:=List.mem_map.mp hx
  have:=(tracesI_spans hsy y hy).1
  simp only [List.length_map];omega
 have htl:(tracesI c (shiftSp c.off)).length ≤ 10000:=by rw [hsh,List.length_map];exact hlt0
 have hall:(allSp (tracesI c (shiftSp c.off))).length ≤ 1600000:=by have:=allSp_len _ hln;omega
 have hLl:(sentL n (tracesI c (shiftSp c.off)) (c.off.map (·.f0))).length ≤ 10000000:=by
  have h1:=sentL_len n (by omega) (tracesI c (shiftSp c.off)) (c.off.map (·.f0))
  have h2:(c.off.map (·.f0)).length * (allSp (tracesI c (shiftSp c.off))).length ≤ 3 * 1600000:=Nat.mul_le_mul (by rw [List.length_map];exact ho3) hall
  omega
 have h5:∀ W q,CfgR W q c→Calls Tryz.prog 5 #[c.val q] W fun e w'=>∃ v,e = .returned (.tuple #[v,.int .i64 0])∧FsOut W.heap.size w' (sentL n (tracesI c (shiftSp c.off)) (c.off.map (·.f0))) v∧Below W.heap.size W w':=fun W q hR=>by
  have h:=sent_calls 0 c q W n _ hR hck hts hnc (by omega) (by omega) hln htl hsy.n0 (by have:=hsy.n4;omega)
  rw [sent_same hsy hpw hcc] at h
  exact h
 have h9:∀ W q,CfgR W q c→Calls Tryz.prog 9 #[c.val q] W fun e w'=>∃ v,e = .returned v∧FsOut W.heap.size w' (sentL n (tracesI c (shiftSp c.off)) (c.off.map (·.f0))) v∧Below W.heap.size W w':=fun W q hR=>by
  rw [hn]
  exact msent_calls c q W hR hsy hsf hst hss hpr hp0 hc0 hc1 ho3
 have hmem:=sentL_mem n (by omega) (tracesI c (shiftSp c.off)) (c.off.map (·.f0))
 generalize sentL n (tracesI c (shiftSp c.off)) (c.off.map (·.f0)) = L at *
 refine ⟨L,arrive L (arL c.seed c.loss c.rep L.length),h5,fun W q hR=>arr_of c q W hR L hLl (fun f hf=>⟨(hmem f hf).1,by have:=(hmem f hf).2;omega⟩) (fun W h=>h5 W q h),h9,fun W q hR=>marr_of c q W hR L hLl (fun W h=>h9 W q h),hLl,?_⟩
 unfold arrive
 rw [List.length_map]
 have:=arL_len c.seed c.loss c.rep L.length
 omega
set_option maxHeartbeats 8000000 in
set_option maxRecDepth 100000 in
theorem sends_calls (p:Plan) (a:PlanAt) (w:World) (hR:PlanR w a p) (hok:PlanOk p):
  Calls Tryz.prog 3 #[.agg (p.cells a)] w fun e w'=>e = .returned (.bool true)∧Below w.heap.size w w':=by
 have HCF:=Aside0.mk (fun W (hb:Below w.heap.size w W)=>config_calls p a W (hR.below hb) hok)
 obtain ⟨L,M,h4⟩:=plan_four p hok
 have HF:=Aside0.mk h4
 generalize p.cfg chgs47 = c at HCF HF
 clear hR hok h4
 go_enter Tryz.func3,Tryz.ntmps3
 go_wp2_with fail
 refine (HCF.out _ (below_alloc (Below.refl _ _) _)).mono ?_
 rintro e w1 ⟨⟨A1,c1,A2,c2,A3,c3,A4,c4⟩,rfl,hR1,hb1⟩
 have HR1:=Aside0.mk hR1.now
 have HB1:=Aside0.mk (below_step (below_alloc (Below.refl w.heap.size w) _) hb1)
 clear hR1 hb1 HCF
 go_upto_region 2 with fail
 have hbb:Below w1.heap.size w1 (w1.alloc (.cells (c.cells ⟨A1,c1,A2,c2,A3,c3,A4,c4⟩) 36)):=below_alloc (Below.refl _ _) _
 have HX:=Aside0.mk (blk_new w1 (.cells (c.cells ⟨A1,c1,A2,c2,A3,c3,A4,c4⟩) 36))
 have HR:=Aside0.mk (HR1.out.below hbb)
 have HB:=Aside0.mk (below_step HB1.out hbb)
 clear hbb HR1 HB1
 generalize w1.alloc (.cells (c.cells ⟨A1,c1,A2,c2,A3,c3,A4,c4⟩) 36) = v1 at HX HR HB ⊢
 generalize w1.heap.size = gb at HX ⊢
 obtain ⟨q0,q1,q2,q3,q4,q5,q6,q7,q8,q9,q10,q11⟩:=cfg12 HX.out
 go_wp2_with fail
 refine (HF.out.s5 _ ⟨A1,c1,A2,c2,A3,c3,A4,c4⟩ HR.out).mono ?_
 rintro e w2 ⟨v,rfl,hf,hb2⟩
 obtain ⟨AL,cL,rfl,hrd⟩:=hf.reads (by have:=HF.out.lL;omega)
 have HL:=Aside0.mk hrd
 replace HX:=Aside0.mk (blk_below HX.out hb2)
 replace HR:=Aside0.mk (HR.out.below hb2)
 replace HB:=Aside0.mk (below_step HB.out hb2)
 clear hb2 hf hrd q0 q1 q2 q3 q4 q5 q6 q7 q8 q9 q10 q11
 obtain ⟨q0,q1,q2,q3,q4,q5,q6,q7,q8,q9,q10,q11⟩:=cfg12 HX.out
 go_wp2_with fail
 refine (HF.out.s6 _ ⟨A1,c1,A2,c2,A3,c3,A4,c4⟩ HR.out).mono ?_
 rintro e w3 ⟨v,rfl,hf,hb3⟩
 obtain ⟨AM,cM,rfl,hrd⟩:=hf.reads (by have:=HF.out.lM;omega)
 have HM:=Aside0.mk hrd
 replace HL:=Aside0.mk (HL.out.below hb3)
 replace HX:=Aside0.mk (blk_below HX.out hb3)
 replace HR:=Aside0.mk (HR.out.below hb3)
 replace HB:=Aside0.mk (below_step HB.out hb3)
 clear hb3 hf hrd q0 q1 q2 q3 q4 q5 q6 q7 q8 q9 q10 q11
 go_wp2_with fail
 refine (known_calls _).mono ?_
 rintro e w4 ⟨rfl,hb4⟩
 replace HL:=Aside0.mk (HL.out.below hb4)
 replace HM:=Aside0.mk (HM.out.below hb4)
 replace HX:=Aside0.mk (blk_below HX.out hb4)
 replace HR:=Aside0.mk (HR.out.below hb4)
 replace HB:=Aside0.mk (below_step HB.out hb4)
 clear hb4
 obtain ⟨q0,q1,q2,q3,q4,q5,q6,q7,q8,q9,q10,q11⟩:=cfg12 HX.out
 go_wp2_with fail
 refine (HF.out.s9 _ ⟨A1,c1,A2,c2,A3,c3,A4,c4⟩ HR.out).mono ?_
 rintro e w5 ⟨v,rfl,hf,hb5⟩
 obtain ⟨AX,cX,rfl,hrd⟩:=hf.reads (by have:=HF.out.lL;omega)
 have HXL:=Aside0.mk hrd
 replace HL:=Aside0.mk (HL.out.below hb5)
 replace HM:=Aside0.mk (HM.out.below hb5)
 replace HX:=Aside0.mk (blk_below HX.out hb5)
 replace HR:=Aside0.mk (HR.out.below hb5)
 replace HB:=Aside0.mk (below_step HB.out hb5)
 clear hb5 hf hrd q0 q1 q2 q3 q4 q5 q6 q7 q8 q9 q10 q11
 go_wp2_with fail
 refine (sameFragments_eq AL cL AX cX L _ HL.out HXL.out).mono ?_
 rintro e w6 ⟨rfl,hb6⟩
 replace HM:=Aside0.mk (HM.out.below hb6)
 replace HX:=Aside0.mk (blk_below HX.out hb6)
 replace HR:=Aside0.mk (HR.out.below hb6)
 replace HB:=Aside0.mk (below_step HB.out hb6)
 clear hb6 HL HXL
 obtain ⟨q0,q1,q2,q3,q4,q5,q6,q7,q8,q9,q10,q11⟩:=cfg12 HX.out
 go_wp2_with fail
 refine (HF.out.s10 _ ⟨A1,c1,A2,c2,A3,c3,A4,c4⟩ HR.out).mono ?_
 rintro e w7 ⟨AY,cY,rfl,hrd,hb7⟩
 have HY:=Aside0.mk hrd
 replace HM:=Aside0.mk (HM.out.below hb7)
 replace HB:=Aside0.mk (below_step HB.out hb7)
 clear hb7 hrd HX HR q0 q1 q2 q3 q4 q5 q6 q7 q8 q9 q10 q11
 go_wp2_with fail
 refine (sameFragments_eq AM cM AY cY M _ HM.out HY.out).mono ?_
 rintro e w8 ⟨rfl,hb8⟩
 replace HB:=Aside0.mk (below_step HB.out hb8)
 clear hb8 HM HY
 go_wp2
 go_ret
 exact ⟨rfl,HB.out⟩
end Go.Proofs.YtdadnapfecmmdaaGreat.P
namespace Go.Proofs.YtdadnapfecmmdaaGreat.P
set_option linter.unusedVariables false
set_option linter.unusedSimpArgs false
open Go.RowKit Go.Proofs.YtdadnapfecmmdaaGreatW.PrintWords Go.Proofs.YtdadnapfecmmdaaGreatW.PrintLast Go.Proofs.YtdadnapfecmmdaaGreatW.PrintMore
theorem u8list (cs:List Value) (h:∀ i (hi:i < cs.length),∃ n,cs[i] = .int .u8 n∧U8 n):∃ ns:List Int,cs = ns.map (Value.int .u8)∧∀ n ∈ ns,U8 n:=by
 induction cs with
 | nil=>exact ⟨[],rfl,by simp⟩
 | cons c r ih=>
  obtain ⟨n,e,hn⟩:=h 0 (by simp)
  obtain ⟨ns,e2,h2⟩:=ih (fun i hi=>by
   have:=h (i + 1) (by simp;omega)
   simpa using this)
  refine ⟨n::ns,?_,?_⟩
  ·simp only [List.getElem_cons_zero] at e
   rw [e,e2];rfl
  ·intro m hm
   rcases List.mem_cons.mp hm with rfl | hm
   ·exact hn
   ·exact h2 m hm
section
variable {H:Type} {enc:TypeId × Value→H} {w:World} {base:Nat} {sp:Nat→Bool} {held:Bool}
theorem u8struct {e:TypeId} {fs:Array Field} {fuel:Nat} {cs:List Value} {x:DataW H × List MemPlace} (ht:Tryz.prog.underlying e = some (.struct fs)) (hc:Tryz.prog.cellsOf e = fs.size)
  (hone:∀ i (h:i < fs.size),fs[i].type = 5∧fs[i].offset = i) (h:DataW.trod enc Tryz.prog w base sp held fuel e cs = some x):∃ ns:List Int,cs = ns.map (Value.int .u8)∧ns.length = fs.size∧∀ n ∈ ns,U8 n:=by
 obtain ⟨xs,n,_,_,hl,hxl,hf⟩:=DataW.trod_struct ht h
 rw [hc] at hl
 obtain ⟨ns,e1,e2⟩:=u8list cs (fun i hi=>by
  obtain ⟨q1,q2⟩:=hone i (by omega)
  have g:=hf i fs[i] (by simp [show i < fs.size by omega])
  rw [q1,q2,List.getElem?_eq_getElem (by omega)] at g
  obtain ⟨m,e,_,hw⟩:=DataW.trod_int Tryz.underlying5 g
  have c5:Tryz.prog.cellsOf 5 = 1:=by kernel_rfl
  rw [c5,List.drop_eq_getElem_cons (by omega)] at e
  simp only [List.take_succ_cons,List.take_zero,List.cons.injEq,and_true] at e
  exact ⟨m,e,bounds_u8 hw⟩)
 exact ⟨ns,e1,by rw [e1,List.length_map] at hl;exact hl,e2⟩
theorem u8slice {α:Type} (d:Kd α) (mk:List Int→α) {t e:TypeId} {fs:Array Field} {fuel:Nat} {cs:List Value} {x:DataW H × List MemPlace} (hs:Tryz.prog.underlying t = some (.slice e)) (ht:Tryz.prog.underlying e = some (.struct fs)) (hc:Tryz.prog.cellsOf e = fs.size)
  (hsz:d.sz = fs.size) (hone:∀ i (h:i < fs.size),fs[i].type = 5∧fs[i].offset = i) (hmk:∀ (W:World) ns,ns.length = fs.size→d.K W (mk ns) (ns.map (Value.int .u8)))
  (h:DataW.trod enc Tryz.prog w base sp held fuel t cs = some x):
  ∃ A c,∃ l:List α,cs = [.slice A l.length c]∧l.length ≤ c∧d.C w A l.length l∧∀ y ∈ l,∃ ns,y = mk ns∧ns.length = fs.size∧∀ n ∈ ns,U8 n:=by
 rcases Go.Deep.open_slice hs h with ⟨rfl,_⟩ | ⟨a,len,cap,m,n,D,Pl,rfl,hb,hle,hcap,hm,_,hel⟩
 ·exact ⟨none,0,[],rfl,Nat.le_refl _,⟨rfl,by simp,fun h=>absurd h (by simp)⟩,by simp⟩
 ·have key:∀ j:Nat,∃ ns:List Int,j < len→ns.length = fs.size∧(∀ n ∈ ns,U8 n)∧∀ i u,(ns.map (Value.int .u8))[i]? = some u→w.cell? (a.add (j * fs.size + i)) = some u:=fun j=>by
   by_cases hj:j < len
   ·obtain ⟨cs',h1,h2⟩:=hel j (by rw [hm];split <;> omega)
    obtain ⟨ns,rfl,h3,h4⟩:=u8struct ht hc hone h2
    refine ⟨ns,fun _=>⟨h3,h4,fun i u hu=>?_⟩⟩
    obtain ⟨_,hlen,hcell⟩:=World.cells?_some h1
    have hi:i < fs.size:=by
     have:=(List.getElem?_eq_some_iff.mp hu).1
     rw [List.length_map] at this
     omega
    rw [hc] at hcell
    rw [← Go.Deep.add_add,hcell i hi]
    exact hu
   ·exact ⟨[],fun h=>absurd h hj⟩
  obtain ⟨f,hf⟩:=Classical.axiomOfChoice key
  have hll:((List.range len).map fun j=>mk (f j)).length = len:=by simp
  refine ⟨some a,cap,(List.range len).map fun j=>mk (f j),by rw [hll],by rw [hll];exact hle,?_,?_⟩
  ·rw [hll]
   refine ⟨hll,by have:maxLen ≤ 9223372036854775807:=(by decide);omega,fun _=>⟨a,rfl,fun j y hy=>?_⟩⟩
   rw [List.getElem?_map] at hy
   obtain ⟨j',hj',rfl⟩:=Option.map_eq_some_iff.mp hy
   obtain ⟨hjl,e⟩:=List.getElem?_eq_some_iff.mp hj'
   rw [List.getElem_range] at e
   subst e
   rw [List.length_range] at hjl
   obtain ⟨g1,g2,g3⟩:=hf j hjl
   exact ⟨(f j).map (Value.int .u8),by rw [List.length_map,g1,hsz],hmk w _ g1,fun i u hu=>by rw [hsz];exact g3 i u hu⟩
  ·intro y hy
   obtain ⟨j,hj,rfl⟩:=List.mem_map.mp hy
   obtain ⟨g1,g2,_⟩:=hf j (List.mem_range.mp hj)
   exact ⟨f j,rfl,g1,g2⟩
def mk87 (ns:List Int):S47:=⟨ns.getD 0 0,ns.getD 1 0,ns.getD 2 0,ns.getD 3 0,ns.getD 4 0⟩
def mk93 (ns:List Int):S56:=⟨ns.getD 0 0,ns.getD 1 0,ns.getD 2 0,ns.getD 3 0,ns.getD 4 0⟩
def mk59 (ns:List Int):S59:=⟨ns.getD 0 0,ns.getD 1 0,ns.getD 2 0,ns.getD 3 0,ns.getD 4 0,ns.getD 5 0⟩
theorem mk87_K (W:World) (ns:List Int) (h:ns.length = 5):k47.K W (mk87 ns) (ns.map (Value.int .u8)):=by
 match ns,h with
 | [a,b,c,d,e],_=>exact k47_mk W ⟨a,b,c,d,e⟩
theorem mk93_K (W:World) (ns:List Int) (h:ns.length = 5):k56.K W (mk93 ns) (ns.map (Value.int .u8)):=by
 match ns,h with
 | [a,b,c,d,e],_=>exact k56_mk W ⟨a,b,c,d,e⟩
theorem mk59_K (W:World) (ns:List Int) (h:ns.length = 6):k59.K W (mk59 ns) (ns.map (Value.int .u8)):=by
 match ns,h with
 | [a,b,c,d,e,f],_=>exact k59_mk W ⟨a,b,c,d,e,f⟩
def Fields5 (fs:Array Field):Bool:=(List.range fs.size).all fun i=>match fs[i]? with
 | some f=>f.type == 5 && f.offset == i
 | none=>false
theorem fields5 {fs:Array Field} (h:Fields5 fs = true):∀ i (h:i < fs.size),fs[i].type = 5∧fs[i].offset = i:=fun i hi=>by
 have:=List.all_eq_true.mp h i (List.mem_range.mpr hi)
 simp only [Array.getElem?_eq_getElem hi,Bool.and_eq_true,beq_iff_eq] at this
 exact this
set_option maxRecDepth 100000 in
theorem openOffs {fuel:Nat} {c0 c1 c2:Value} {x:DataW H × List MemPlace} (h:DataW.trod enc Tryz.prog w base sp held fuel 24 [c0,c1,c2] = some x):∃ a b c:Int,c0 = .int .i8 a∧c1 = .int .i8 b∧c2 = .int .i8 c∧I8 a∧I8 b∧I8 c:=by
 obtain ⟨xs,m,_,_,hl,hn,hi⟩:=DataW.trod_array Tryz.underlying24 h
 obtain ⟨x0,x1,x2,rfl⟩:∃ a b c,xs = [a,b,c]:=by
  match xs,hn with
  | [a,b,c],_=>exact ⟨a,b,c,rfl⟩
 have h0:=hi 0 (by decide)
 have h1:=hi 1 (by decide)
 have h2:=hi 2 (by decide)
 have cc:Tryz.prog.cellsOf 23 = 1:=by kernel_rfl
 rw [cc] at h0 h1 h2
 obtain ⟨n0,e0,_,w0⟩:=DataW.trod_int Tryz.underlying23 (x:=x0) h0
 obtain ⟨n1,e1,_,w1⟩:=DataW.trod_int Tryz.underlying23 (x:=x1) h1
 obtain ⟨n2,e2,_,w2⟩:=DataW.trod_int Tryz.underlying23 (x:=x2) h2
 simp at e0 e1 e2
 exact ⟨n0,n1,n2,e0,e1,e2,bounds_i8 w0,bounds_i8 w1,bounds_i8 w2⟩
theorem openU8 {fuel:Nat} {c:Value} {x:DataW H × List MemPlace} (h:DataW.trod enc Tryz.prog w base sp held fuel 5 [c] = some x):∃ n:Int,c = .int .u8 n∧U8 n:=by
 obtain ⟨n,e,_,hw⟩:=DataW.trod_int Tryz.underlying5 h
 simp at e
 exact ⟨n,e,bounds_u8 hw⟩
set_option maxRecDepth 100000 in
theorem openPlan {r:Reach} {b:Nat} {v:Value} {d:DataW H} {ps:List MemPlace} (hv:Value.okWide Tryz.prog w r b 28 v) (h:DataW.Trod enc Tryz.prog w base sp held 28 v d ps):∃ (p:Plan) (a:PlanAt),v = .agg (p.cells a)∧PlanR w a p∧PlanOk p:=by
 obtain ⟨cs,rfl,hs⟩:∃ cs:Array Value,v = .agg cs∧cs.size = 14:=by
  simp only [Value.okWide,Tryz.underlying28] at hv
  obtain ⟨cs,h1,h2,_⟩:=hv
  exact ⟨cs,h1,by rw [h2];kernel_rfl⟩
 obtain ⟨cs⟩:=cs
 obtain ⟨c0,c1,c2,c3,c4,c5,c6,c7,c8,c9,c10,c11,c12,c13,rfl⟩:∃ c0 c1 c2 c3 c4 c5 c6 c7 c8 c9 c10 c11 c12 c13,cs = [c0,c1,c2,c3,c4,c5,c6,c7,c8,c9,c10,c11,c12,c13]:=by
  match cs,hs with
  | [c0,c1,c2,c3,c4,c5,c6,c7,c8,c9,c10,c11,c12,c13],_=>exact ⟨c0,c1,c2,c3,c4,c5,c6,c7,c8,c9,c10,c11,c12,c13,rfl⟩
 obtain ⟨fuel,hf⟩:=h
 obtain ⟨xs,m,_,_,hl,hn,hi⟩:=DataW.trod_struct Tryz.underlying28 hf
 obtain ⟨x0,x1,x2,x3,x4,x5,x6,x7,x8,x9,x10,x11,rfl⟩:∃ x0 x1 x2 x3 x4 x5 x6 x7 x8 x9 x10 x11,xs = [x0,x1,x2,x3,x4,x5,x6,x7,x8,x9,x10,x11]:=by
  match xs,hn with
  | [x0,x1,x2,x3,x4,x5,x6,x7,x8,x9,x10,x11],_=>exact ⟨x0,x1,x2,x3,x4,x5,x6,x7,x8,x9,x10,x11,rfl⟩
 have k5:Tryz.prog.cellsOf 5 = 1:=by kernel_rfl
 have k22:Tryz.prog.cellsOf 22 = 1:=by kernel_rfl
 have k24:Tryz.prog.cellsOf 24 = 3:=by kernel_rfl
 have k25:Tryz.prog.cellsOf 25 = 1:=by kernel_rfl
 have k26:Tryz.prog.cellsOf 26 = 1:=by kernel_rfl
 have g0 := hi 0 { name := "Seed", type := 5, offset := 0, embedded := false, tag := "", pkgPath := "", byteOffset := 0 } rfl
 have g1 := hi 1 { name := "Parts", type := 22, offset := 1, embedded := false, tag := "", pkgPath := "", byteOffset := 8 } rfl
 have g2 := hi 2 { name := "Offsets", type := 24, offset := 2, embedded := false, tag := "", pkgPath := "", byteOffset := 32 } rfl
 have g3 := hi 3 { name := "Changes", type := 25, offset := 5, embedded := false, tag := "", pkgPath := "", byteOffset := 40 } rfl
 have g4 := hi 4 { name := "Troubles", type := 26, offset := 6, embedded := false, tag := "", pkgPath := "", byteOffset := 64 } rfl
 have g5 := hi 5 { name := "First", type := 5, offset := 7, embedded := false, tag := "", pkgPath := "", byteOffset := 88 } rfl
 have g6 := hi 6 { name := "Slots", type := 5, offset := 8, embedded := false, tag := "", pkgPath := "", byteOffset := 89 } rfl
 have g7 := hi 7 { name := "PerSlot", type := 5, offset := 9, embedded := false, tag := "", pkgPath := "", byteOffset := 90 } rfl
 have g8 := hi 8 { name := "Delay", type := 5, offset := 10, embedded := false, tag := "", pkgPath := "", byteOffset := 91 } rfl
 have g9 := hi 9 { name := "Chunk", type := 5, offset := 11, embedded := false, tag := "", pkgPath := "", byteOffset := 92 } rfl
 have g10 := hi 10 { name := "Loss", type := 5, offset := 12, embedded := false, tag := "", pkgPath := "", byteOffset := 93 } rfl
 have g11 := hi 11 { name := "Repeat", type := 5, offset := 13, embedded := false, tag := "", pkgPath := "", byteOffset := 94 } rfl
 simp only [k5,k22,k24,k25,k26] at g0 g1 g2 g3 g4 g5 g6 g7 g8 g9 g10 g11
 obtain ⟨n0,rfl,b0⟩:=openU8 (c:=c0) (x:=x0) g0
 obtain ⟨A1,d1,l1,e1,hl1,hc1,ho1⟩:=u8slice k47 mk87 Tryz.underlying22 Tryz.underlying47 (by kernel_rfl) (by kernel_rfl) (fields5 (by kernel_rfl)) mk87_K (x:=x1) g1
 obtain ⟨o0,o1,o2,rfl,rfl,rfl,bo0,bo1,bo2⟩:=openOffs (c0:=c2) (c1:=c3) (c2:=c4) (x:=x2) g2
 obtain ⟨A2,d2,l2,e2,hl2,hc2,ho2⟩:=u8slice k56 mk93 Tryz.underlying25 Tryz.underlying56 (by kernel_rfl) (by kernel_rfl) (fields5 (by kernel_rfl)) mk93_K (x:=x3) g3
 obtain ⟨A3,d3,l3,e3,hl3,hc3,ho3⟩:=u8slice k59 mk59 Tryz.underlying26 Tryz.underlying59 (by kernel_rfl) (by kernel_rfl) (fields5 (by kernel_rfl)) mk59_K (x:=x4) g4
 obtain ⟨n5,rfl,b5⟩:=openU8 (c:=c7) (x:=x5) g5
 obtain ⟨n6,rfl,b6⟩:=openU8 (c:=c8) (x:=x6) g6
 obtain ⟨n7,rfl,b7⟩:=openU8 (c:=c9) (x:=x7) g7
 obtain ⟨n8,rfl,b8⟩:=openU8 (c:=c10) (x:=x8) g8
 obtain ⟨n9,rfl,b9⟩:=openU8 (c:=c11) (x:=x9) g9
 obtain ⟨n10,rfl,b10⟩:=openU8 (c:=c12) (x:=x10) g10
 obtain ⟨n11,rfl,b11⟩:=openU8 (c:=c13) (x:=x11) g11
 obtain rfl:c1 = .slice A1 l1.length d1:=by simpa [Value.cells] using e1
 obtain rfl:c5 = .slice A2 l2.length d2:=by simpa [Value.cells] using e2
 obtain rfl:c6 = .slice A3 l3.length d3:=by simpa [Value.cells] using e3
 refine ⟨⟨n0,l1,o0,o1,o2,l2,l3,n5,n6,n7,n8,n9,n10,n11⟩,⟨A1,d1,A2,d2,A3,d3⟩,rfl,⟨hc1,hl1,hc2,hl2,hc3,hl3⟩,⟨b0,bo0,bo1,bo2,b5,b6,b7,b8,b9,b10,b11,?_,?_,?_⟩⟩
 ·intro x hx
  obtain ⟨ns,rfl,hq,hu⟩:=ho1 x hx
  match ns,hq with
  | [q0,q1,q2,q3,q4],_=>exact ⟨hu q0 (by simp),hu q1 (by simp),hu q2 (by simp),hu q3 (by simp),hu q4 (by simp)⟩
 ·intro x hx
  obtain ⟨ns,rfl,hq,hu⟩:=ho2 x hx
  match ns,hq with
  | [q0,q1,q2,q3,q4],_=>exact ⟨hu q0 (by simp),hu q1 (by simp),hu q2 (by simp),hu q3 (by simp),hu q4 (by simp)⟩
 ·intro x hx
  obtain ⟨ns,rfl,hq,hu⟩:=ho3 x hx
  match ns,hq with
  | [q0,q1,q2,q3,q4,q5],_=>exact ⟨hu q0 (by simp),hu q1 (by simp),hu q2 (by simp),hu q3 (by simp),hu q4 (by simp),hu q5 (by simp)⟩
end
end Go.Proofs.YtdadnapfecmmdaaGreat.P
