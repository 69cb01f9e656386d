/- Own texts of a proof about layer 55's simulate (merged): Ms, PF90, PF92, Sc, Sf, Fk, Ap. -/
import Derived.Test.YtdadnapfecmmdaaGreatXs11
import Derived.Test.YtdadnapfecmmdaaGreatXs18
import Derived.Test.YtdadnapfecmmdaaGreatXs19
import Derived.Test.YtdadnapfecmmdaaGreatXs2
import Derived.Test.YtdadnapfecmmdaaGreatXs7
import Derived.Test.YtdadnapfecmmdaaGreatXs8
import Derived.Deep.DeepMust
namespace Go.Proofs.YtdadnapfecmmdaaGreat.P
set_option linter.unusedVariables false
set_option linter.unusedSimpArgs false
open Go.RowKit Go.Proofs.YtdadnapfecmmdaaGreatW.PrintWords Go.Proofs.YtdadnapfecmmdaaGreatW.PrintLast Go.Proofs.YtdadnapfecmmdaaGreatW.PrintMore
open Go.Proofs.YtdadnapfecmmdaaGreat.Hm
def msT.T1:Bool × List (List Nat × List Nat):=(true,[([],[]),([],[]),([1],[1]),([0,2,2],[0,2]),([3,3,0,1,2,3],[3])])
def msT.B1:List Nat:=[0,0,2,7,15]
theorem msT.tab1:rtab .any (opsOf Tryz.f9 1) = msT.T1:=by kernel_rfl
theorem msT.bits1:waitsOk msT.T1.2 msT.B1 = true:=by kernel_rfl
def msT.T13:Bool × List (List Nat × List Nat):=(true,[([],[]),([],[]),([0,1],[0,1]),([2],[2]),([3],[3]),([],[]),([4,5],[4,5]),([6],[6]),([7],[7]),([],[]),([9],[9]),([8,10],[8,10])])
def msT.B13:List Nat:=[0,0,3,7,15,0,63,127,255,0,512,2047]
theorem msT.tab13:rtab .any (opsOf Tryz.f9 13) = msT.T13:=by kernel_rfl
theorem msT.bits13:waitsOk msT.T13.2 msT.B13 = true:=by kernel_rfl
def msT.T14:Bool × List (List Nat × List Nat):=(true,[([],[]),([0],[0]),([],[]),([],[]),([2,3],[2,3]),([4],[4]),([5],[5]),([],[]),([6,7],[6,7]),([8],[8]),([9],[9]),([1,10],[1,10]),([0,1,2,3,4,5,6,7,8,9,10,11],[]),([12,11,11,0,1,2,3,4,5,6,7,8,9,10,11],[11,12])])
def msT.B14:List Nat:=[0,1,0,0,12,28,60,0,252,508,1020,2047,4095,8191]
theorem msT.tab14:rtab .any (opsOf Tryz.f9 14) = msT.T14:=by kernel_rfl
theorem msT.bits14:waitsOk msT.T14.2 msT.B14 = true:=by kernel_rfl
set_option maxHeartbeats 8000000 in
set_option maxRecDepth 100000 in
theorem msent_calls (c:Cfg) (p:CfgAt) (w:World) (hR:CfgR w p c) (hSys:Sys c) (h0:0 ≤ c.sfrom) (h1:c.sto ≤ 100) (hss:c.sfrom ≤ c.sto) (hp:c.per ≤ 10) (hp0:0 ≤ c.per) (hc0:1 ≤ c.chunk) (hc1:c.chunk ≤ 64) (ho3:c.off.length ≤ 3):
  Calls Tryz.prog 9 #[c.val p] w fun e w'=>∃ v,e = .returned v∧FsOut w.heap.size w' (sentL c.chunk.toNat (tracesI c (shiftSp c.off)) (c.off.map (·.f0))) v∧Below w.heap.size w w':=by
 have HT1:=Aside0.mk (fun W (h:CfgR W p c)=>mtruth_calls c p W h hSys h0 h1 hp)
 have HLT:=tracesI_len c hss hp0
 have hlt0:(tracesI c id).length ≤ 10000:=by
  have h2:c.per * (c.sto - c.sfrom) ≤ 10 * (c.sto - c.sfrom):=Int.mul_le_mul_of_nonneg_right hp (by omega)
  omega
 have hcn:cntOf c.sv ≤ 160:=by
  have h2:=cAt_le hSys 0
  have h3:cntOf c.sv = cAt c.sv 0:=by
   have:=hSys.n0
   unfold cntOf cAt
   rw [List.drop_zero,show (0:Int) = ((0:Nat):Int) from rfl,rd_T51_get _ 0 (by omega),hSys.name 0 (by omega)]
  omega
 have HSP:=Aside0.mk (fun x hx=>tracesI_spans hSys x hx)
 have HT2:=Aside0.mk (fun W b v (h:CfgR W p c) (ht:TsOut b W (tracesI c id) v)=>mshown_calls c p b (tracesI c id) v W h ht (fun x hx=>(HSP.out x hx).2) (fun x hx=>by have:=(HSP.out x hx).1;omega) hlt0)
 have HSH:=tracesI_shift c (shiftSp c.off)
 have HTS:Aside0 ((∀ x ∈ tracesI c (shiftSp c.off),x.l ≠ []∧x.l.length ≤ 160)∧(tracesI c (shiftSp c.off)).length ≤ 10000):=⟨by
  rw [HSH]
  refine ⟨fun x hx=>?_,by rw [List.length_map];exact hlt0⟩
  obtain ⟨y,hy,rfl⟩:=List.mem_map.mp hx
  have:=HSP.out y hy
  exact ⟨by simpa using this.2,by simp only [List.length_map];omega⟩⟩
 rw [← HSH] at HT2
 clear HSH HSP HLT hlt0 hcn h0 h1 hss hp hp0 hSys
 generalize tracesI c (shiftSp c.off) = ts at HT2 HTS ⊢
 generalize tracesI c id = ts0 at HT1 HT2
 obtain ⟨N,hN⟩:∃ N,N = c.chunk.toNat:=⟨_,rfl⟩
 rw [← hN]
 have hNc:(N:Int) = c.chunk:=by omega
 have hN0:0 < N:=by omega
 have hN1:N ≤ 64:=by omega
 clear hN
 obtain ⟨A1,c1,A2,c2,A3,c3,A4,c4⟩:=p
 have HR:=Aside0.mk hR
 have HX:=Aside0.mk (blk_new w (.cells (c.cells ⟨A1,c1,A2,c2,A3,c3,A4,c4⟩) 36))
 have HB:=Aside0.mk (below_alloc (Below.refl w.heap.size w) (.cells (c.cells ⟨A1,c1,A2,c2,A3,c3,A4,c4⟩) 36))
 clear hR
 go_enter Tryz.func9,Tryz.ntmps9
 go_upto_region 1 with fail
 generalize w.alloc (.cells (c.cells ⟨A1,c1,A2,c2,A3,c3,A4,c4⟩) 36) = v0 at HX HB ⊢
 obtain ⟨q0,q1,q2,q3,q4,q5,q6,q7,q8,q9,q10,q11⟩:=cfg12 HX.out
 refine start_ (n:=5) (S:=fun w'=>Below v0.heap.size v0 w') (ds:=[]) #[false,false,false,false,false] (by kernel_rfl) rfl rfl (Below.refl _ _).drew (fun hHeld=>?_)
 refine with_tabW msT.tab1 msT.bits1 (fun HT_ HW_=>?_)
 generalize v0.drew = wd at hHeld ⊢
 refine tk_ 0 (some 9) #[true,false,false,false,false] HT_ HW_ rfl rfl hHeld ?_ (by intro w' hS;replace q0:=below_at hS q0;replace q1:=below_at hS q1;replace q2:=below_at hS q2;replace q3:=below_at hS q3;replace q4:=below_at hS q4;replace q5:=below_at hS q5;replace q6:=below_at hS q6;replace q7:=below_at hS q7;replace q8:=below_at hS q8;replace q9:=below_at hS q9;replace q10:=below_at hS q10;replace q11:=below_at hS q11;go_simp;with_reducible rfl)
 refine tk_ 1 (some 10) #[true,true,false,false,false] HT_ HW_ rfl rfl hHeld ?_ (by intro w' hS;replace q0:=below_at hS q0;replace q1:=below_at hS q1;replace q2:=below_at hS q2;replace q3:=below_at hS q3;replace q4:=below_at hS q4;replace q5:=below_at hS q5;replace q6:=below_at hS q6;replace q7:=below_at hS q7;replace q8:=below_at hS q8;replace q9:=below_at hS q9;replace q10:=below_at hS q10;replace q11:=below_at hS q11;go_simp;with_reducible rfl)
 refine one_ (i:=2) (N:=some 11) #[true,true,true,false,false] rfl rfl (one_of HT_.out (by kernel_rfl)) (by decide) (fun K hK=>?_)
 refine goes_ Tryz.func26 (by kernel_rfl) rfl #[c.val ⟨A1,c1,A2,c2,A3,c3,A4,c4⟩] (by rfl) rfl rfl (by (try simp only [List.map_toArray,List.map_cons,List.map_nil]);first | done | rfl) ?_
 with_reducible refine (HT1.out _ (HR.out.below (below_step HB.out hHeld))).mono ?_
 rintro e wx1 ⟨v1,rfl,ht1,hb⟩
 refine ⟨_,rfl,?_⟩
 replace hHeld:=below_step hHeld hb
 clear hb
 refine hK.out _ _ hHeld (fun hHeld=>?_)
 clear hK K
 refine norm_ (a':=?_) ?_ ?_
 rotate_left
 ·show Act.put _ (some 11) _ = _
  simp only [Act.put,List.setIfInBounds_toArray,List.set_cons_zero,List.set_cons_succ,i64_w,i32_w]
  rfl
 refine one_ (i:=3) (N:=some 12) #[true,true,true,true,false] rfl rfl (one_of HT_.out (by kernel_rfl)) (by decide) (fun K hK=>?_)
 refine goes_ Tryz.func25 (by kernel_rfl) rfl #[c.val ⟨A1,c1,A2,c2,A3,c3,A4,c4⟩,v1] (by rfl) rfl rfl (by (try simp only [List.map_toArray,List.map_cons,List.map_nil]);first | done | rfl) ?_
 with_reducible refine (HT2.out _ _ v1 (HR.out.below (below_step HB.out hHeld)) ht1).mono ?_
 rintro e wx2 ⟨v2,rfl,ht2,hb⟩
 refine ⟨_,rfl,?_⟩
 replace hHeld:=below_step hHeld hb
 clear hb
 refine hK.out _ _ hHeld (fun hHeld=>?_)
 clear hK K
 refine norm_ (a':=?_) ?_ ?_
 rotate_left
 ·show Act.put _ (some 12) _ = _
  simp only [Act.put,List.setIfInBounds_toArray,List.set_cons_zero,List.set_cons_succ,i64_w,i32_w]
  rfl
 refine pu_ 4 (some 3) #[true,true,true,true,true] HT_ rfl rfl ?_
 refine done_ (done_of HT_.out (by kernel_rfl)) ?_
 replace HX:=Aside0.mk (blk_below HX.out hHeld)
 replace HB:=Aside0.mk (below_step HB.out hHeld)
 obtain ⟨xsT,hxs,hown,htr⟩:=ht2
 have hxl:xsT.length = ts.length:=by rw [← hxs,List.length_map]
 obtain ⟨A0,cp0,rfl⟩:=own_slice hown
 have HOT:=Aside0.mk (own_base hown (Nat.zero_le _))
 have HRT:Aside0 (RowsB wx2 0 wx2.heap.size (xsT.map fun x=>(x.1.l,x.2))):=⟨fun y hy=>by
  obtain ⟨x,hx,rfl⟩:=List.mem_map.mp hy
  exact ⟨own_base (htr x hx) (Nat.zero_le _),fun k hk=>(own_block (htr x hx) k hk).1⟩⟩
 have HXS:=Aside0.mk hxs
 have hxT:xsT.length ≤ 10000:=by have:=HTS.out.2;omega
 have HXN:Aside0 (∀ x ∈ xsT,x.1.l ≠ []∧x.1.l.length ≤ 160):=⟨fun x hx=>HTS.out.1 x.1 (by rw [← HXS.out];exact List.mem_map_of_mem hx)⟩
 clear ht1 hxs hown htr hHeld q0 q1 q2 q3 q4 q5 q6 q7 q8 q9 q10 q11 HT1 HT2 hxl
 have hno:c.off.length ≤ 3:=ho3
 go_wp2_with fail
 go_loopg [4,5,6,7,8] c.off.length (fun gg s4 s5 s6 s7 s8 wr=>∃ (i:Nat) (xs:List (Fr × Value)) (cp:Nat) (A:Option Addr),s4 = .slice A xs.length cp∧s5 = .int .i64 (i:Int)∧i ≤ c.off.length∧c.off.length - i ≤ gg∧Aside0 (xs.map (·.1) = sentL N ts ((c.off.take i).map (·.f0)))∧Aside0 (xs.length ≤ i * 2000000)∧Aside0 (wr.ownsRow w.heap.size 81 4 (.slice A xs.length cp) xs.length (frc xs))∧Aside0 (RowsB wr w.heap.size wr.heap.size (xs.map fun x:Fr × Value=>(x.1.l,x.2)))∧Aside0 (RowsB wr 0 wr.heap.size (xsT.map fun x=>(x.1.l,x.2)))∧Aside0 (wr.ownsRow 0 70 3 (.slice A0 xsT.length cp0) xsT.length (trc xsT))∧Aside0 (Below w.heap.size w wr)∧Aside0 (wr.heap[w.heap.size]? = some (.cells (c.cells ⟨A1,c1,A2,c2,A3,c3,A4,c4⟩) 36 (0,0))))
 case atStart=>exact ⟨0,[],0,none,by rfl,by rfl,by omega,by omega,⟨by rfl⟩,⟨by simp⟩,⟨rfl,.inl ⟨rfl,rfl⟩⟩,⟨fun x hx=>by cases hx⟩,HRT,HOT,HB,HX⟩
 case round=>
  clear HRT HOT HB HX
  obtain ⟨i,xs,cp,A,rfl,rfl,hi,hgi,HM,HLN,HO,HRF,HRT,HOT,HB,HX⟩:=hrel
  have q2:wr.cell? ⟨w.heap.size,2,none⟩ = some (.slice A2 c.off.length c2):=(blk_cell HX.out 2).trans rfl
  by_cases hlt:i < c.off.length
  ·have hz1:(i:Int) < (c.off.length:Int):=by omega
   have s1:IntKind.i64.wrap ((i:Int) + 1) = (i:Int) + 1:=IntWalk.i64_in _ (by omega)
   obtain ⟨ad,e,t0,-⟩:=at_T54 HR.out.r2 (i:Int) (by omega) (by omega)
   dsimp only at e
   subst e
   simp only [Int.toNat_natCast] at t0
   replace t0:=below_at HB.out t0
   have HMN:Aside0 (sentL N ts ((c.off.take (i + 1)).map (·.f0)) = sentL N ts ((c.off.take i).map (·.f0)) ++ frs (rd_T54 c.off (i:Int)).f0 N 0 (spansOf ts (rd_T54 c.off (i:Int)).f0)):=⟨by
    rw [rd_T54_get c.off i hlt,List.take_succ_eq_append_getElem hlt,List.map_append]
    simp [sentL]⟩
   generalize (rd_T54 c.off (i:Int)).f0 = ag at t0 HMN
   go_upto_region 7 with fail
   have hgx:=blk_new wr (.cells #[.int .i64 ag,.int .i64 0,.slice none 0 0,.slice none 0 0] 81)
   have hbx:Below wr.heap.size wr (wr.alloc (.cells #[.int .i64 ag,.int .i64 0,.slice none 0 0,.slice none 0 0] 81)):=below_alloc (Below.refl _ _) _
   obtain ⟨gf,hgf⟩:∃ gf,gf = wr.heap.size:=⟨_,rfl⟩
   have hw0:w.heap.size < gf:=by rw [hgf];exact blk_lt HX.out
   have HST:Aside0 (MsSt w (wr.alloc (.cells #[.int .i64 ag,.int .i64 0,.slice none 0 0,.slice none 0 0] 81)) gf (c.cells ⟨A1,c1,(some ad),c2,A3,c3,A4,c4⟩) xsT (.slice A0 xsT.length cp0) ag 0 [] xs (.slice A xs.length cp) (.slice none 0 0) wr.heap.size):=⟨⟨pw_own_below HO.out hbx,fun e=>by
    have h1:=(own_block HO.out gf e.symm).1
    omega,⟨rfl,.inl ⟨rfl,rfl⟩⟩,HB.out.size,hbx.size,HRF.out.below hbx,HRT.out.below hbx,pw_own_below HOT.out hbx,by rw [hgf];exact hgx,hw0,below_step HB.out hbx,blk_below HX.out hbx⟩⟩
   rw [← hgf]
   generalize wr.alloc (.cells #[.int .i64 ag,.int .i64 0,.slice none 0 0,.slice none 0 0] 81) = va at HST ⊢
   generalize wr.heap.size = B0 at HST
   obtain ⟨out0,hout0⟩:∃ l,l = xs.map (·.1):=⟨_,rfl⟩
   have hol:out0.length ≤ i * 2000000:=by rw [hout0,List.length_map];exact HLN.out
   have HM0:Aside0 (frM ag N (allSp (ts.take 0)) out0 0 [] = (xs.map (·.1),0,[])):=⟨by rw [hout0];rfl⟩
   rw [← hout0] at HM
   have HOT0:=Aside0.mk hout0
   have HSL:=Aside0.mk (allSp_len ts (fun x hx=>(HTS.out.1 x hx).2))
   have hts0:=HTS.out.2
   clear HO HRF HRT HOT HB HX HLN hgx hbx hgf hout0 hw0 t0 q2 HOT0
   go_wp2_with fail
   go_loopg [4,7,8] xsT.length (fun gg s4 s7 s8 wr=>∃ (k:Nat) (xs:List (Fr × Value)) (cp:Nat) (A:Option Addr) (cur:List Sp) (seq:Int) (vf:Value) (B:Nat),s4 = .slice A xs.length cp∧s7 = .int .i64 (k:Int)∧k ≤ xsT.length∧xsT.length - k ≤ gg∧Aside0 (frM ag N (allSp (ts.take k)) out0 0 [] = (xs.map (·.1),seq,cur))∧Aside0 (cur.length < N)∧Aside0 (MsSt w wr gf (c.cells ⟨A1,c1,(some ad),c2,A3,c3,A4,c4⟩) xsT (.slice A0 xsT.length cp0) ag seq cur xs (.slice A xs.length cp) vf B))
   case atStart=>exact ⟨0,xs,cp,A,[],0,.slice none 0 0,B0,by rfl,by rfl,by omega,by omega,HM0,⟨by simpa using hN0⟩,HST⟩
   case round=>
    clear HST HM0
    obtain ⟨k,xs,cp,A,cur,seq,vf,B,rfl,rfl,hk,hgk,HMM,HCL,HS⟩:=hrel
    by_cases hkt:k < xsT.length
    ·have hz3:(k:Int) < (xsT.length:Int):=by omega
     have sk1:IntKind.i64.wrap ((k:Int) + 1) = (k:Int) + 1:=IntWalk.i64_in _ (by omega)
     obtain ⟨r0,cq0,cur0,e0,_,_⟩:=own_some HS.out.tr (by omega)
     injection e0 with e0 _ e0'
     subst e0
     subst e0'
     have hkl:k < ts.length:=by have:=HXS.out;rw [← this,List.length_map];exact hkt
     have HTK:Aside0 (allSp (ts.take (k + 1)) = allSp (ts.take k) ++ xsT[k].1.l):=⟨by
      rw [allSp_take ts k hkl]
      have h2:ts[k] = xsT[k].1:=by
       have:=HXS.out
       subst this
       simp
      rw [h2]⟩
     obtain ⟨hxne,hx160⟩:=HXN.out xsT[k] (List.getElem_mem hkt)
     have hxr:=(HS.out.ts (xsT[k].1.l,xsT[k].2) (List.mem_map_of_mem (List.getElem_mem hkt))).1
     have hxlen:0 < xsT[k].1.l.length:=List.length_pos_iff.mpr hxne
     obtain ⟨rx,cx,curx,ex,_,_⟩:=own_some hxr hxlen
     have HEX:Aside0 (∀ W' B' seq' cur' xs' vo' vf',MsSt w W' gf (c.cells ⟨A1,c1,(some ad),c2,A3,c3,A4,c4⟩) xsT (.slice (some ⟨r0,0,none⟩) xsT.length cp0) ag seq' cur' xs' vo' vf' B'→W'.cell? ⟨r0,k * 3 + 2,none⟩ = some (.slice (some ⟨rx,0,none⟩) xsT[k].1.l.length cx)∧W'.ownsRow 0 74 14 (.slice (some ⟨rx,0,none⟩) xsT[k].1.l.length cx) xsT[k].1.l.length (spc xsT[k].1.l)):=⟨fun W' B' seq' cur' xs' vo' vf' h=>by
      have h1:=(own_cell51 h.tr k hkt).2.2
      have h2:=(h.ts (xsT[k].1.l,xsT[k].2) (List.mem_map_of_mem (List.getElem_mem hkt))).1
      dsimp only at h2 ex
      rw [ex] at h1 h2
      exact ⟨h1,h2⟩⟩
     clear hxr ex hxne
     generalize xsT[k].1.l = xl at HTK HEX hx160 hxlen
     go_wp2_with fail
     have HMK:Aside0 (frM ag N (allSp (ts.take k) ++ xl.take 0) out0 0 [] = (xs.map (·.1),seq,cur)):=⟨by rw [List.take_zero,List.append_nil];exact HMM.out⟩
     clear HMM
     go_loopg [4,8] xl.length (fun gg s4 s8 wr=>∃ (n:Nat) (xs:List (Fr × Value)) (cp:Nat) (A:Option Addr) (cur:List Sp) (seq:Int) (vf:Value) (B:Nat),s4 = .slice A xs.length cp∧s8 = .int .i64 (n:Int)∧n ≤ xl.length∧xl.length - n ≤ gg∧Aside0 (frM ag N (allSp (ts.take k) ++ xl.take n) out0 0 [] = (xs.map (·.1),seq,cur))∧Aside0 (cur.length < N)∧Aside0 (MsSt w wr gf (c.cells ⟨A1,c1,(some ad),c2,A3,c3,A4,c4⟩) xsT (.slice (some ⟨r0,0,none⟩) xsT.length cp0) ag seq cur xs (.slice A xs.length cp) vf B))
     case atStart=>exact ⟨0,xs,cp,A,cur,seq,vf,B,by rfl,by rfl,by omega,by omega,HMK,HCL,HS⟩
     case round=>
      clear HMK HCL HS
      obtain ⟨n,xs,cp,A,cur,seq,vf,B,rfl,rfl,hn,hgn,HMM,HCL,HS⟩:=hrel
      obtain ⟨t2,hvx⟩:=HEX.out _ _ _ _ _ _ _ HS.out
      by_cases hnl:n < xl.length
      ·have hz4:(n:Int) < (xl.length:Int):=by omega
       have sn1:IntKind.i64.wrap ((n:Int) + 1) = (n:Int) + 1:=IntWalk.i64_in _ (by omega)
       obtain ⟨s0,_,_,_⟩:=own_cell56 hvx n 0 hnl (by omega)
       obtain ⟨s1,_,_,_⟩:=own_cell56 hvx n 1 hnl (by omega)
       obtain ⟨s2,_,_,_⟩:=own_cell56 hvx n 2 hnl (by omega)
       obtain ⟨s3,_,_,_⟩:=own_cell56 hvx n 3 hnl (by omega)
       obtain ⟨s4,_,_,_⟩:=own_cell56 hvx n 4 hnl (by omega)
       obtain ⟨s5,_,_,_⟩:=own_cell56 hvx n 5 hnl (by omega)
       obtain ⟨s6,_,_,_⟩:=own_cell56 hvx n 6 hnl (by omega)
       obtain ⟨s7,_,_,_⟩:=own_cell56 hvx n 7 hnl (by omega)
       obtain ⟨s8,_,_,_⟩:=own_cell56 hvx n 8 hnl (by omega)
       obtain ⟨s9,_,_,_⟩:=own_cell56 hvx n 9 hnl (by omega)
       obtain ⟨s10,_,_,_⟩:=own_cell56 hvx n 10 hnl (by omega)
       obtain ⟨s11,_,_,_⟩:=own_cell56 hvx n 11 hnl (by omega)
       obtain ⟨s12,_,_,_⟩:=own_cell56 hvx n 12 hnl (by omega)
       obtain ⟨s13,_,_,_⟩:=own_cell56 hvx n 13 hnl (by omega)
       have HTN:Aside0 (xl.take (n + 1) = xl.take n ++ [xl[n]]):=⟨List.take_succ_eq_append_getElem hnl⟩
       generalize xl[n] = s at s0 s1 s2 s3 s4 s5 s6 s7 s8 s9 s10 s11 s12 s13 HTN
       replace s0:wr.cell? ⟨rx,n * 14 + 0,none⟩ = some (.int .i64 s.tr):=s0
       replace s1:wr.cell? ⟨rx,n * 14 + 1,none⟩ = some (.int .i64 s.id):=s1
       replace s2:wr.cell? ⟨rx,n * 14 + 2,none⟩ = some (.int .i64 s.par):=s2
       replace s3:wr.cell? ⟨rx,n * 14 + 3,none⟩ = some (.int .i64 s.rev):=s3
       replace s4:wr.cell? ⟨rx,n * 14 + 4,none⟩ = some (.int .i64 s.clk):=s4
       replace s5:wr.cell? ⟨rx,n * 14 + 5,none⟩ = some (.int .i64 s.kind):=s5
       replace s6:wr.cell? ⟨rx,n * 14 + 6,none⟩ = some (.string s.svc):=s6
       replace s7:wr.cell? ⟨rx,n * 14 + 7,none⟩ = some (.string s.ver):=s7
       replace s8:wr.cell? ⟨rx,n * 14 + 8,none⟩ = some (.string s.op):=s8
       replace s9:wr.cell? ⟨rx,n * 14 + 9,none⟩ = some (.int .i64 s.st):=s9
       replace s10:wr.cell? ⟨rx,n * 14 + 10,none⟩ = some (.int .i64 s.en):=s10
       replace s11:wr.cell? ⟨rx,n * 14 + 11,none⟩ = some (.bool s.err):=s11
       replace s12:wr.cell? ⟨rx,n * 14 + 12,none⟩ = some (.slice none 0 0):=s12
       replace s13:wr.cell? ⟨rx,n * 14 + 13,none⟩ = some (.slice none 0 0):=s13
       replace s0:wr.cell? ⟨rx,n * 14,none⟩ = some (.int .i64 s.tr):=s0
       have HMS:Aside0 (frM ag N (allSp (ts.take k) ++ xl.take (n + 1)) out0 0 [] = frM ag N [s] (xs.map (·.1)) seq cur):=⟨by rw [HTN.out,← List.append_assoc,frM_app,HMM.out]⟩
       have hql:(allSp (ts.take k) ++ xl.take n).length ≤ 1600160:=by
        have h1:=allSp_len (ts.take k) (fun x hx=>(HTS.out.1 x (List.mem_of_mem_take hx)).2)
        rw [List.length_take] at h1
        rw [List.length_append,List.length_take]
        omega
       have hfl:=frM_len ag N (allSp (ts.take k) ++ xl.take n) out0 0 []
       rw [HMM.out] at hfl
       dsimp only at hfl
       rw [List.length_map] at hfl
       clear hvx
       have g0:wr.cell? ⟨gf,0,none⟩ = some (.int .i64 ag):=(blk_cell HS.out.g 0).trans rfl
       go_upto_region 13 with fail
       refine start_ (n:=12) (S:=fun w'=>Below wr.heap.size wr w') (ds:=[]) (bq 12 0) (by kernel_rfl) rfl rfl (Below.refl _ _).drew (fun hHeld=>?_)
       refine with_tabW msT.tab13 msT.bits13 (fun HT_ HW_=>?_)
       generalize wr.drew = wd at hHeld ⊢
       refine pu_ 0 (some 43) (bq 12 1) HT_ rfl rfl ?_
       refine pu_ 1 (some 44) (bq 12 3) HT_ rfl rfl ?_
       refine pu_ 2 (some 45) (bq 12 7) HT_ rfl rfl ?_
       refine pu_ 3 (some 46) (bq 12 15) HT_ rfl rfl ?_
       refine tk_ 4 (some 47) (bq 12 31) HT_ HW_ rfl rfl hHeld ?_ (by intro w' hS;replace t2:=below_at hS t2;go_simp;with_reducible rfl)
       refine pu_ 5 (some 48) (bq 12 63) HT_ rfl rfl ?_
       refine pu_ 6 (some 49) (bq 12 127) HT_ rfl rfl ?_
       refine pu_ 7 (some 50) (bq 12 255) HT_ rfl rfl ?_
       refine tk_ 8 (some 51) (bq 12 511) HT_ HW_ rfl rfl hHeld ?_ (by intro w' hS;replace s4:=below_at hS s4;go_simp;with_reducible rfl)
       refine pu_ 9 (some 52) (bq 12 1023) HT_ rfl rfl ?_
       refine tk_ 10 (some 53) (bq 12 2047) HT_ HW_ rfl rfl hHeld ?_ (by intro w' hS;replace g0:=below_at hS g0;go_simp;with_reducible rfl)
       refine pu_ 11 (some 54) (bq 12 4095) HT_ rfl rfl ?_
       refine done_ (done_of HT_.out (by kernel_rfl)) ?_
       replace HS:=Aside0.mk (HS.out.below hHeld)
       replace t2:=below_at hHeld t2
       replace s0:=below_at hHeld s0
       replace s1:=below_at hHeld s1
       replace s2:=below_at hHeld s2
       replace s3:=below_at hHeld s3
       replace s4:=below_at hHeld s4
       replace s5:=below_at hHeld s5
       replace s6:=below_at hHeld s6
       replace s7:=below_at hHeld s7
       replace s8:=below_at hHeld s8
       replace s9:=below_at hHeld s9
       replace s10:=below_at hHeld s10
       replace s11:=below_at hHeld s11
       replace s12:=below_at hHeld s12
       replace s13:=below_at hHeld s13
       clear hHeld g0
       by_cases hks:s.clk = ag
       ·skip
        have zne:(s.clk != ag) = false:=by simpa using hks
        obtain ⟨Af,cf,rfl⟩:=own_slice HS.out.f
        have g2:wd.cell? ⟨gf,2,none⟩ = some (.slice Af cur.length cf):=(blk_cell HS.out.g 2).trans rfl
        have hcur:=HCL.out
        go_upto_region 14 with fail
        refine start_ (n:=14) (S:=fun w'=>Below wd.heap.size wd w') (ds:=[11,13]) (bq 14 0) (by kernel_rfl) rfl rfl (Below.refl _ _).drew (fun hHeld=>?_)
        refine with_tabW msT.tab14 msT.bits14 (fun HT_ HW_=>?_)
        generalize wd.drew = we at hHeld ⊢
        refine pu_ 0 (some 55) (bq 14 1) HT_ rfl rfl ?_
        refine tk_ 1 (some 56) (bq 14 3) HT_ HW_ rfl rfl hHeld ?_ (by intro w' hS;replace g2:=below_at hS g2;go_simp;with_reducible rfl)
        refine pu_ 2 (some 57) (bq 14 7) HT_ rfl rfl ?_
        refine pu_ 3 (some 58) (bq 14 15) HT_ rfl rfl ?_
        refine pu_ 4 (some 59) (bq 14 31) HT_ rfl rfl ?_
        refine pu_ 5 (some 60) (bq 14 63) HT_ rfl rfl ?_
        refine tk_ 6 (some 61) (bq 14 127) HT_ HW_ rfl rfl hHeld ?_ (by intro w' hS;replace t2:=below_at hS t2;go_simp;with_reducible rfl)
        refine pu_ 7 (some 62) (bq 14 255) HT_ rfl rfl ?_
        refine pu_ 8 (some 63) (bq 14 511) HT_ rfl rfl ?_
        refine tk_ 9 (some 64) (bq 14 1023) HT_ HW_ rfl rfl hHeld ?_ (by intro w' hS;replace s0:=below_at hS s0;replace s1:=below_at hS s1;replace s2:=below_at hS s2;replace s3:=below_at hS s3;replace s4:=below_at hS s4;replace s5:=below_at hS s5;replace s6:=below_at hS s6;replace s7:=below_at hS s7;replace s8:=below_at hS s8;replace s9:=below_at hS s9;replace s10:=below_at hS s10;replace s11:=below_at hS s11;replace s12:=below_at hS s12;replace s13:=below_at hS s13;go_simp;with_reducible rfl)
        refine one_ (i:=10) (N:=some 65) (bq 14 2047) rfl rfl (one_of HT_.out (by kernel_rfl)) (by decide) (fun K hK=>?_)
        refine event_step (w1:=World.alloc we (.cells #[.int .i64 s.tr,.int .i64 s.id,.int .i64 s.par,.int .i64 s.rev,.int .i64 s.clk,.int .i64 s.kind,.string s.svc,.string s.ver,.string s.op,.int .i64 s.st,.int .i64 s.en,.bool s.err,.slice none 0 0,.slice none 0 0] 74)) (v:=.slice (some ⟨we.heap.size,0,none⟩) 1 1) (by rfl) (by go_simp) ?_
        have hHeld0:=hHeld
        refine hK.out _ _ (below_alloc hHeld _) (fun _=>?_)
        clear hHeld
        have hHeld:=hHeld0
        clear hHeld0
        clear hK K
        refine norm_ (a':=?_) ?_ ?_
        rotate_left
        ·show Act.put _ (some 65) _ = _
         simp only [Act.put,List.setIfInBounds_toArray,List.set_cons_zero,List.set_cons_succ,i64_w,i32_w]
         rfl
        have HS8:=Aside0.mk (HS.out.below hHeld)
        refine last_ (i:=11) (N:=some 66) (bq 14 4095) rfl rfl (one_of HT_.out (by kernel_rfl)) (by decide) (fun K hK=>?_)
        refine step_append_cells (w0:=we) B (by rfl) (.tmp 56) (.tmp 65) 68 74 _ 14 168 rfl Tryz.underlying68 info74 rfl (by decide) (by decide) (.slice Af cur.length cf) cur.length (spc cur) [.int .i64 s.tr,.int .i64 s.id,.int .i64 s.par,.int .i64 s.rev,.int .i64 s.clk,.int .i64 s.kind,.string s.svc,.string s.ver,.string s.op,.int .i64 s.st,.int .i64 s.en,.bool s.err,.slice none 0 0,.slice none 0 0] (by rfl) (by rfl) rfl ?c1 HS8.out.f (Below.refl _ _) HS8.out.b1 ?c3 ?_;(case c1=>exact cells_one s);(case c3=>omega)
        intro v9 w9 hown1 hb1 hg1 hat1
        obtain ⟨A9,c9,rfl⟩:=own_slice hown1
        have hgb:w9.heap[gf]? = some (.cells #[.int .i64 ag,.int .i64 seq,.slice Af cur.length cf,.slice none 0 0] 81 (0,0)):=blk_grown HS8.out.g hg1 (own_ne HS8.out.f HS8.out.g (by decide))
        have HS9:=Aside0.mk (HS8.out.append s hown1 hg1 hb1)
        have z1:=blk_frozen hgb 2
        have z2:w9.cell? ⟨gf,2,none⟩ = some (.slice Af cur.length cf):=(blk_cell hgb 2).trans rfl
        clear hown1 hb1 hg1 hat1 hgb
        refine hK.out _ _ ?_
        clear hK K
        refine norm_ (a':=?_) ?_ ?_
        rotate_left
        ·show Act.put _ (some 66) _ = _
         simp only [Act.put,List.setIfInBounds_toArray,List.set_cons_zero,List.set_cons_succ,i64_w,i32_w]
         rfl
        refine pu_ 12 (some 67) (bq 14 8191) HT_ rfl rfl ?_
        refine last_ (i:=13) (N:=none) (bq 14 16383) rfl rfl (one_of HT_.out (by kernel_rfl)) (by decide) (fun K hK=>?_)
        rw [if_pos (by rfl)]
        go_simp
        refine hK.out _ _ ?_
        clear hK K
        refine done_ (done_of HT_.out (by kernel_rfl)) ?_
        generalize w9.setCell ⟨gf,2,none⟩ (.slice A9 (cur.length + 1) c9) = wf at HS9 ⊢
        clear HS HS8 hHeld z1 z2 g2 t2 s0 s1 s2 s3 s4 s5 s6 s7 s8 s9 s10 s11 s12 s13
        have g2:wf.cell? ⟨gf,2,none⟩ = some (.slice A9 (cur.length + 1) c9):=(blk_cell HS9.out.g 2).trans rfl
        have q9:wf.cell? ⟨w.heap.size,9,none⟩ = some (.int .i64 c.chunk):=(blk_cell HS9.out.cf 9).trans rfl
        by_cases hfull:cur.length + 1 = N
        ·have zf:(((cur.length + 1:Nat):Int) == c.chunk) = true:=by simp;omega
         have zf2:((cur.length:Int) + 1 == c.chunk) = true:=by simp;omega
         have g0:wf.cell? ⟨gf,0,none⟩ = some (.int .i64 ag):=(blk_cell HS9.out.g 0).trans rfl
         have g1:wf.cell? ⟨gf,1,none⟩ = some (.int .i64 seq):=(blk_cell HS9.out.g 1).trans rfl
         have g3:wf.cell? ⟨gf,3,none⟩ = some (.slice none 0 0):=(blk_cell HS9.out.g 3).trans rfl
         have sq1:IntKind.i64.wrap (seq + 1) = seq + 1:=IntWalk.i64_in _ (by omega)
         have hxb:xs.length ≤ 100000000:=by omega
         have hwf:w.heap.size ≤ wf.heap.size:=HS9.out.bel.size
         have HM1:Aside0 (frM ag N (allSp (ts.take k) ++ xl.take (n + 1)) out0 0 [] = ((xs ++ [((⟨ag,seq,cur ++ [s]⟩:Fr),Value.slice A9 (cur.length + 1) c9)]).map (·.1),seq + 1,[])):=⟨by rw [HMS.out];simp only [frM];rw [if_pos hks,if_pos (by simpa using hfull)];simp⟩
         have HFU:=Aside0.mk hfull
         clear HMS HMM hfull
         go_upto_region 16 with fail
         go_wp2_with (at_builtin;go_must (refine print_append_cells (w0:=w) w.heap.size rfl _ _ 38 81 _ 4 64 rfl Tryz.underlying38 info81 rfl (by decide) (by decide) (.slice A xs.length cp) xs.length (frc xs) [.int .i64 ag,.int .i64 seq,.slice A9 (cur.length + 1) c9,.slice none 0 0] rfl ?c4 rfl ?c1 HS9.out.out HS9.out.bel ?c2 ?c3 ?_;(case c1=>intro u hu;simp at hu;rcases hu with rfl | rfl | rfl | rfl <;> rfl);(case c4=>show Value.slice (some ⟨wf.heap.size,0,none⟩) 1 1 = _;first | rfl | simp);(case c2=>first | omega | (simp;omega));(case c3=>first | omega | (simp;omega));intro v1 w1 hown1 hb1 hg1 hat1;obtain ⟨A1',cp1,rfl⟩:=own_slice hown1;have HP:=Aside0.mk (HS9.out.push hown1 hg1 hb1 hat1);have HB1:=Aside0.mk hb1;have hgg:=HS9.out.gge;clear hown1 hg1 hb1 hat1;have y0:w1.cell? ⟨gf,0,none⟩ = some (.int .i64 ag):=(blk_cell HP.out.2.2.2.2.2.1 0).trans rfl;have y1:w1.cell? ⟨gf,1,none⟩ = some (.int .i64 seq):=(blk_cell HP.out.2.2.2.2.2.1 1).trans rfl;have y2:w1.cell? ⟨gf,2,none⟩ = some (.slice A9 (cur.length + 1) c9):=(blk_cell HP.out.2.2.2.2.2.1 2).trans rfl;have y3:w1.cell? ⟨gf,3,none⟩ = some (.slice none 0 0):=(blk_cell HP.out.2.2.2.2.2.1 3).trans rfl;have f0:=blk_frozen HP.out.2.2.2.2.2.1 0;have f1:=blk_frozen HP.out.2.2.2.2.2.1 1;have f2:=blk_frozen HP.out.2.2.2.2.2.1 2;have f3:=blk_frozen HP.out.2.2.2.2.2.1 3))
         have HS1:=Aside0.mk (MsSt.reset HP.out.1 HP.out.2.1 HP.out.2.2.1 HP.out.2.2.2.1 HP.out.2.2.2.2.1 HP.out.2.2.2.2.2.1 HP.out.2.2.2.2.2.2 hgg HB1.out (seq + 1))
         go_roundg (xl.length - (n + 1))
         case measure=>omega
         case rel=>exact ⟨n + 1,_,cp1,A1',[],seq + 1,.slice none 0 0,_,by rw [List.length_append];rfl,by first | rfl | go_num,by omega,Nat.le_refl _,HM1,⟨by simpa using hN0⟩,by rw [List.length_append];exact HS1⟩
        ·have zf:(((cur.length + 1:Nat):Int) == c.chunk) = false:=by simp;omega
         have zf2:((cur.length:Int) + 1 == c.chunk) = false:=by simp;omega
         have HM1:Aside0 (frM ag N (allSp (ts.take k) ++ xl.take (n + 1)) out0 0 [] = (xs.map (·.1),seq,cur ++ [s])):=⟨by rw [HMS.out];simp only [frM];rw [if_pos hks,if_neg (by simpa using hfull)]⟩
         clear HMS HMM
         go_wp2_with fail
         go_roundg (xl.length - (n + 1))
         case measure=>omega
         case rel=>exact ⟨n + 1,xs,cp,A,cur ++ [s],seq,_,B,by rfl,by first | rfl | go_num,by omega,Nat.le_refl _,HM1,⟨by rw [List.length_append,List.length_singleton];omega⟩,HS9⟩
       ·skip
        have zne:(s.clk != ag) = true:=by simpa using hks
        have HM1:Aside0 (frM ag N (allSp (ts.take k) ++ xl.take (n + 1)) out0 0 [] = (xs.map (·.1),seq,cur)):=⟨by rw [HMS.out];simp only [frM];rw [if_neg hks]⟩
        clear s0 s1 s2 s3 s4 s5 s6 s7 s8 s9 s10 s11 s12 s13 t2 HMS HMM
        go_wp2_with fail
        go_roundg (xl.length - (n + 1))
        case measure=>omega
        case rel=>exact ⟨n + 1,xs,cp,A,cur,seq,vf,B,by rfl,by first | rfl | go_num,by omega,Nat.le_refl _,HM1,HCL,HS⟩
      ·obtain rfl:n = xl.length:=by omega
       have hz4:decide (xl.length < xl.length) = false:=by simp
       have hz5:decide ((xl.length:Int) < (xl.length:Int)) = false:=by simp
       have HM1:Aside0 (frM ag N (allSp (ts.take (k + 1))) out0 0 [] = (xs.map (·.1),seq,cur)):=⟨by rw [HTK.out,← HMM.out,List.take_length]⟩
       clear HMM
       go_wp2_with fail
       go_roundg (xsT.length - (k + 1))
       case measure=>omega
       case rel=>exact ⟨k + 1,xs,cp,A,cur,seq,vf,B,by rfl,by first | rfl | go_num,by omega,Nat.le_refl _,HM1,HCL,HS⟩
    ·obtain rfl:k = xsT.length:=by omega
     have hz3:decide (xsT.length < xsT.length) = false:=by simp
     have hz4:decide ((xsT.length:Int) < (xsT.length:Int)) = false:=by simp
     have hxl2:xsT.length = ts.length:=by have:=HXS.out;rw [← this,List.length_map]
     have HM1:=HMM.out
     rw [hxl2,List.take_length] at HM1
     have hfl:=frM_len ag N (allSp ts) out0 0 []
     rw [HM1] at hfl
     dsimp only at hfl
     rw [List.length_map] at hfl
     have hsl:=HSL.out
     have HME:=Aside0.mk (frM_end ag N hN0 _ _ _ _ _ HM1)
     clear hxl2 HM1 HMM
     obtain ⟨Af,cf,rfl⟩:=own_slice HS.out.f
     have g2:wr.cell? ⟨gf,2,none⟩ = some (.slice Af cur.length cf):=(blk_cell HS.out.g 2).trans rfl
     have hxb:xs.length ≤ i * 2000000 + 1600000:=by omega
     by_cases hc:cur.length = 0
     ·have zc:decide ((0:Int) < (cur.length:Int)) = false:=decide_eq_false (by omega)
      have zc2:decide (0 < cur.length) = false:=decide_eq_false (by omega)
      have HM2:Aside0 (xs.map (·.1) = sentL N ts ((c.off.take (i + 1)).map (·.f0))):=⟨by
       have h:=HME.out
       rw [if_pos hc] at h
       rw [HMN.out,← HM.out]
       exact h⟩
      clear HME
      go_wp2_with fail
      go_roundg (c.off.length - (i + 1))
      case measure=>omega
      case rel=>exact ⟨i + 1,xs,cp,A,by rfl,by first | rfl | go_num,by omega,Nat.le_refl _,HM2,⟨by omega⟩,⟨HS.out.out⟩,⟨HS.out.fs.mono HS.out.b1⟩,⟨HS.out.ts.mono HS.out.b1⟩,⟨HS.out.tr⟩,⟨HS.out.bel⟩,⟨HS.out.cf⟩⟩
     ·have zc:decide ((0:Int) < (cur.length:Int)) = true:=decide_eq_true (by omega)
      have zc2:decide (0 < cur.length) = true:=decide_eq_true (by omega)
      have g0:wr.cell? ⟨gf,0,none⟩ = some (.int .i64 ag):=(blk_cell HS.out.g 0).trans rfl
      have g1:wr.cell? ⟨gf,1,none⟩ = some (.int .i64 seq):=(blk_cell HS.out.g 1).trans rfl
      have g3:wr.cell? ⟨gf,3,none⟩ = some (.slice none 0 0):=(blk_cell HS.out.g 3).trans rfl
      have hwf:w.heap.size ≤ wr.heap.size:=HS.out.bel.size
      have HM2:Aside0 ((xs ++ [((⟨ag,seq,cur⟩:Fr),Value.slice Af cur.length cf)]).map (·.1) = sentL N ts ((c.off.take (i + 1)).map (·.f0))):=⟨by
       have h:=HME.out
       rw [if_neg hc] at h
       rw [HMN.out,← HM.out,List.map_append]
       exact h⟩
      clear HME
      go_upto_region 19 with fail
      go_wp2_with (at_builtin;go_must (refine print_append_cells (w0:=w) w.heap.size rfl _ _ 38 81 _ 4 64 rfl Tryz.underlying38 info81 rfl (by decide) (by decide) (.slice A xs.length cp) xs.length (frc xs) [.int .i64 ag,.int .i64 seq,.slice Af cur.length cf,.slice none 0 0] rfl ?c4 rfl ?c1 HS.out.out HS.out.bel ?c2 ?c3 ?_;(case c1=>intro u hu;simp at hu;rcases hu with rfl | rfl | rfl | rfl <;> rfl);(case c4=>show Value.slice (some ⟨wr.heap.size,0,none⟩) 1 1 = _;first | rfl | simp);(case c2=>first | omega | (simp;omega));(case c3=>first | omega | (simp;omega));intro v1 w1 hown1 hb1 hg1 hat1;obtain ⟨A1',cp1,rfl⟩:=own_slice hown1;have HP:=Aside0.mk (HS.out.push hown1 hg1 hb1 hat1);have HB1:=Aside0.mk hb1;clear hown1 hg1 hb1 hat1))
      go_roundg (c.off.length - (i + 1))
      case measure=>omega
      case rel=>exact ⟨i + 1,_,cp1,A1',by rw [List.length_append];rfl,by first | rfl | go_num,by omega,Nat.le_refl _,HM2,⟨by rw [List.length_append,List.length_singleton];omega⟩,by rw [List.length_append];exact ⟨by have:=HP.out.1;rw [List.length_append] at this;exact this⟩,⟨HP.out.2.2.1⟩,⟨HP.out.2.2.2.1⟩,⟨HP.out.2.2.2.2.1⟩,HB1,⟨HP.out.2.2.2.2.2.2⟩⟩
  ·obtain rfl:i = c.off.length:=by omega
   have hz1:decide (c.off.length < c.off.length) = false:=by simp
   have hz2:decide ((c.off.length:Int) < (c.off.length:Int)) = false:=by simp
   go_wp2_with fail
   go_returns
   exact ⟨_,by rfl,⟨xs,by rw [HM.out,List.take_length],HO.out,HRF.out⟩,HB.out⟩
end Go.Proofs.YtdadnapfecmmdaaGreat.P
namespace Go.Proofs.YtdadnapfecmmdaaGreat.P
open Go.RowKit Go.Proofs.YtdadnapfecmmdaaGreatW.PrintWords Go.Proofs.YtdadnapfecmmdaaGreatW.PrintLast Go.Proofs.YtdadnapfecmmdaaGreatW.PrintMore
attribute [local go_sem] max2_int min2_int max_two min_two max_three min_three max_four min_four   -- for this text's walks alone
set_option linter.unusedVariables false
set_option linter.unusedSimpArgs false
def slices_Compare_int_int.l0:Nat→List Int→List Int→List Int→Int→Int→Option (Int)
 | 0,_,_,_,_,_=>none
 | k + 1,x0,x1,x9,x10,x11=>if x11 < x10 then (if 0 ≤ x11 then (if x11 < (x9.length:Int) then (if x11 ≥ (x1.length:Int) then (some 1) else (if x11 < (x1.length:Int) then ((cmp_Compare_int.f (rd x9 x11) (rd x1 x11)).bind fun t205=>(if t205 = 0 then (slices_Compare_int_int.l0 k x0 x1 x9 x10 (wrap64 (x11 + 1))) else (some t205))) else (none))) else (none)) else (none)) else (if (x0.length:Int) < (x1.length:Int) then (some (-1)) else (some 0))
def slices_Compare_int_int.f (k:Nat) (l0:List Int) (l1:List Int):Option (Int):=slices_Compare_int_int.l0 k l0 l1 l0 (l0.length:Int) 0
set_option maxHeartbeats 8000000 in
set_option maxRecDepth 100000 in
theorem slices_Compare_int_int.calls (k:Nat) (A0:Option Addr) (c0:Nat) (l0:List Int) (A1:Option Addr) (c1:Nat) (l1:List Int) (r:Int) (w:World) (hr0:Kd.C (Kd.int .i64) w A0 l0.length l0) (hc0:l0.length ≤ c0) (hr1:Kd.C (Kd.int .i64) w A1 l1.length l1) (hc1:l1.length ≤ c1) (h:slices_Compare_int_int.f k l0 l1 = some r):
  Calls Tryz.prog 90 #[.slice A0 l0.length c0,.slice A1 l1.length c1] w fun e w'=>e = .returned (.int .i64 r)∧Drawn0 w w':=by
 have HR0:=Aside0.mk hr0
 have HC0:=Aside0.mk hc0
 clear hr0 hc0
 have HR1:=Aside0.mk hr1
 have HC1:=Aside0.mk hc1
 clear hr1 hc1
 have H:(slices_Compare_int_int.l0 k l0 l1 l0 (l0.length:Int) 0) = some r:=h
 clear h
 have H':=Aside0.mk H
 clear H
 go_enter Tryz.func90,Tryz.ntmps90
 go_wp2
 go_loopg [11] k (fun kq v11 w'=>∃ (x11_1:Int),v11 = .int .i64 x11_1∧Aside0 (slices_Compare_int_int.l0 kq l0 l1 l0 (l0.length:Int) x11_1 = some r)∧Aside0 (kq ≤ k)∧Drawn0 w w')
 case atStart=>exact ⟨(0),(by first | rfl | (simp;done) | (simp [*];done)),H',⟨Nat.le_refl _⟩,by repeat (first | exact Drawn0.refl _ | apply Drawn0.step)⟩
 case round=>
  clear H'
  try clear c1
  try clear p2
  obtain ⟨x11_1,rfl,HA,HK1,⟨m1,rfl⟩⟩:=hrel
  cases gk with
  | zero=>exact absurd HA.out (by simp [slices_Compare_int_int.l0])
  | succ k1=>
   have H:=HA.out
   clear HA
   simp only [slices_Compare_int_int.l0] at H
   by_cases c3:x11_1 < (l0.length:Int)
   ·rw [if_pos c3] at H
    have c3b0:decide (x11_1 < (l0.length:Int)) = true:=decide_eq_true c3
    clear c3
    by_cases c4:0 ≤ x11_1
    ·rw [if_pos c4] at H
     have c4b0:decide (0 ≤ x11_1) = true:=decide_eq_true c4
     clear c4
     by_cases c5:x11_1 < (l0.length:Int)
     ·rw [if_pos c5] at H
      have c5b0:decide (x11_1 < (l0.length:Int)) = true:=decide_eq_true c5
      clear c5
      by_cases c6:x11_1 ≥ (l1.length:Int)
      ·rw [if_pos c6] at H
       have c6b0:decide ((l1.length:Int) ≤ x11_1) = true:=decide_eq_true c6
       clear c6
       obtain rfl:=Option.some.inj H
       have p203:0 ≤ (x11_1:Int):=of_decide_eq_true (by first | (with_reducible assumption) | assumption)
       have q203:x11_1 < (l0.length:Int):=of_decide_eq_true (by first | (with_reducible assumption) | assumption)
       obtain ⟨ad203,e203,hx203_0⟩:=Kd.at_int HR0.out x11_1 p203 q203
       cases e203
       replace p203:=eq_true p203
       replace q203:=eq_true q203
       go_wp2
       go_ret
       exact ⟨by first | rfl | (simp;done) | (simp [*];done),by repeat (first | exact Drawn0.refl _ | apply Drawn0.step)⟩
      ·rw [if_neg c6] at H
       have c6b0:decide ((l1.length:Int) ≤ x11_1) = false:=decide_eq_false c6
       clear c6
       by_cases c7:x11_1 < (l1.length:Int)
       ·rw [if_pos c7] at H
        have c7b0:decide (x11_1 < (l1.length:Int)) = true:=decide_eq_true c7
        clear c7
        replace H:=Option.bind_eq_some_iff.mp H
        obtain ⟨t205,A80,H⟩:=H
        replace H:(if t205 = 0 then (slices_Compare_int_int.l0 k1 l0 l1 l0 (l0.length:Int) (wrap64 (x11_1 + 1))) else (some t205)) = some r:=H
        have A8:=Aside0.mk A80
        clear A80
        by_cases c9:t205 = 0
        ·rw [if_pos c9] at H
         have c9b0:(t205 == 0) = true:=beq_iff_eq.mpr c9
         have c9b1:(t205 != 0) = false:=bne_eq_false_iff_eq.mpr c9
         clear c9
         have H':=Aside0.mk H
         clear H
         have p203:0 ≤ (x11_1:Int):=of_decide_eq_true (by first | (with_reducible assumption) | assumption)
         have q203:x11_1 < (l0.length:Int):=of_decide_eq_true (by first | (with_reducible assumption) | assumption)
         obtain ⟨ad203,e203,hx203_0⟩:=Kd.at_int HR0.out x11_1 p203 q203
         cases e203
         replace p203:=eq_true p203
         replace q203:=eq_true q203
         have p204:0 ≤ (x11_1:Int):=of_decide_eq_true (by first | (with_reducible assumption) | assumption)
         have q204:x11_1 < (l1.length:Int):=of_decide_eq_true (by first | (with_reducible assumption) | assumption)
         obtain ⟨ad204,e204,hx204_0⟩:=Kd.at_int HR1.out x11_1 p204 q204
         cases e204
         replace p204:=eq_true p204
         replace q204:=eq_true q204
         go_wp2_with (first | ((with_reducible refine gate_callee (f:=22) rfl ?_);refine goesL_ (some 26) rfl rfl Tryz.func22 (by kernel_rfl) rfl #[.int .i64 (rd l0 x11_1),.int .i64 (rd l1 x11_1)] rfl (by (try simp only [List.map_toArray,List.map_cons,List.map_nil]);first | done | rfl | (simp only [List.length_drop,List.length_take];rfl)) ?_;(with_reducible refine (cmp_Compare_int.calls (rd l0 x11_1) (rd l1 x11_1) t205 _ A8.out).mono ?_);rintro e w' ⟨rfl,⟨nd,rfl⟩⟩;refine ⟨_,rfl,?_⟩))
         go_roundg k1
         case measure=>have:=HK1.out;omega
         case rel=>exact ⟨(wrap64 (x11_1 + 1)),(by first | rfl | (simp;done) | (simp [*];done)),H',⟨by have:=HK1.out;omega⟩,by repeat (first | exact Drawn0.refl _ | apply Drawn0.step)⟩
        ·rw [if_neg c9] at H
         have c9b0:(t205 == 0) = false:=beq_eq_false_iff_ne.mpr c9
         have c9b1:(t205 != 0) = true:=bne_iff_ne.mpr c9
         obtain rfl:=Option.some.inj H
         have p203:0 ≤ (x11_1:Int):=of_decide_eq_true (by first | (with_reducible assumption) | assumption)
         have q203:x11_1 < (l0.length:Int):=of_decide_eq_true (by first | (with_reducible assumption) | assumption)
         obtain ⟨ad203,e203,hx203_0⟩:=Kd.at_int HR0.out x11_1 p203 q203
         cases e203
         replace p203:=eq_true p203
         replace q203:=eq_true q203
         have p204:0 ≤ (x11_1:Int):=of_decide_eq_true (by first | (with_reducible assumption) | assumption)
         have q204:x11_1 < (l1.length:Int):=of_decide_eq_true (by first | (with_reducible assumption) | assumption)
         obtain ⟨ad204,e204,hx204_0⟩:=Kd.at_int HR1.out x11_1 p204 q204
         cases e204
         replace p204:=eq_true p204
         replace q204:=eq_true q204
         go_wp2_with (first | ((with_reducible refine gate_callee (f:=22) rfl ?_);refine goesL_ (some 26) rfl rfl Tryz.func22 (by kernel_rfl) rfl #[.int .i64 (rd l0 x11_1),.int .i64 (rd l1 x11_1)] rfl (by (try simp only [List.map_toArray,List.map_cons,List.map_nil]);first | done | rfl | (simp only [List.length_drop,List.length_take];rfl)) ?_;(with_reducible refine (cmp_Compare_int.calls (rd l0 x11_1) (rd l1 x11_1) t205 _ A8.out).mono ?_);rintro e w' ⟨rfl,⟨nd,rfl⟩⟩;refine ⟨_,rfl,?_⟩))
         go_ret
         exact ⟨by first | rfl | (simp;done) | (simp [*];done),by repeat (first | exact Drawn0.refl _ | apply Drawn0.step)⟩
       ·rw [if_neg c7] at H
        exact absurd H (by simp)
     ·rw [if_neg c5] at H
      exact absurd H (by simp)
    ·rw [if_neg c4] at H
     exact absurd H (by simp)
   ·rw [if_neg c3] at H
    have c3b0:decide (x11_1 < (l0.length:Int)) = false:=decide_eq_false c3
    clear c3
    by_cases c10:(l0.length:Int) < (l1.length:Int)
    ·rw [if_pos c10] at H
     have c10b0:decide ((l0.length:Int) < (l1.length:Int)) = true:=decide_eq_true c10
     have c10b1:decide (l0.length < l1.length) = true:=decide_eq_true (Int.ofNat_lt.mp c10)
     clear c10
     obtain rfl:=Option.some.inj H
     go_wp2
     go_ret
     exact ⟨by first | rfl | (simp;done) | (simp [*];done),by repeat (first | exact Drawn0.refl _ | apply Drawn0.step)⟩
    ·rw [if_neg c10] at H
     have c10b0:decide ((l0.length:Int) < (l1.length:Int)) = false:=decide_eq_false c10
     have c10b1:decide (l0.length < l1.length) = false:=decide_eq_false (fun h=>c10 (Int.ofNat_lt.mpr h))
     clear c10
     obtain rfl:=Option.some.inj H
     go_wp2
     go_ret
     exact ⟨by first | rfl | (simp;done) | (simp [*];done),by repeat (first | exact Drawn0.refl _ | apply Drawn0.step)⟩
def span_number.f (a0:Bool):Option (Int):=if a0 = true then (some 1) else (some 0)
set_option maxHeartbeats 8000000 in
set_option maxRecDepth 100000 in
theorem span_number.calls (a0:Bool) (r:Int) (w:World) (h:span_number.f a0 = some r):
  Calls Tryz.prog 92 #[.bool a0] w fun e w'=>e = .returned (.int .i64 r)∧Drawn0 w w':=by
 have H:(if a0 = true then (some 1) else (some 0)) = some r:=h
 clear h
 by_cases c2:a0 = true
 ·subst c2
  have H1:(some 1) = some r:=by rw [if_pos rfl] at H;exact H
  clear H
  have H:=H1
  clear H1
  obtain rfl:=Option.some.inj H
  go_enter Tryz.func92,Tryz.ntmps92
  go_wp2
  go_ret
  exact ⟨by first | rfl | (simp;done) | (simp [*];done),by repeat (first | exact Drawn0.refl _ | apply Drawn0.step)⟩
 ·replace c2:=Bool.eq_false_iff.mpr c2
  subst c2
  have H1:(some 0) = some r:=by rw [if_neg (show ¬ (false = true) by decide)] at H;exact H
  clear H
  have H:=H1
  clear H1
  obtain rfl:=Option.some.inj H
  go_enter Tryz.func92,Tryz.ntmps92
  go_wp2
  go_ret
  exact ⟨by first | rfl | (simp;done) | (simp [*];done),by repeat (first | exact Drawn0.refl _ | apply Drawn0.step)⟩
end Go.Proofs.YtdadnapfecmmdaaGreat.P
namespace Go.Proofs.YtdadnapfecmmdaaGreat.P
set_option linter.unusedVariables false
set_option linter.unusedSimpArgs false
open Go.RowKit Go.Proofs.YtdadnapfecmmdaaGreatW.PrintWords Go.Proofs.YtdadnapfecmmdaaGreatW.PrintLast Go.Proofs.YtdadnapfecmmdaaGreatW.PrintMore
open Go.Proofs.YtdadnapfecmmdaaGreat.Hm
abbrev sv14 (s:Sp) (A12:Option Addr) (c12:Nat) (A13:Option Addr) (c13:Nat):Array Value:=#[.int .i64 s.tr,.int .i64 s.id,.int .i64 s.par,.int .i64 s.rev,.int .i64 s.clk,.int .i64 s.kind,.string s.svc,.string s.ver,.string s.op,.int .i64 s.st,.int .i64 s.en,.bool s.err,.slice A12 0 c12,.slice A13 0 c13]
theorem cmpattr_nil (A:Option Addr) (c:Nat) (B:Option Addr) (d:Nat) (v:Value) (w:World):Calls Tryz.prog 106 #[.slice A 0 c,.slice B 0 d,v] w fun e w'=>e = .returned (.int .i64 0)∧Below w.heap.size w w':=by
 go_enter Tryz.func106,Tryz.ntmps106
 go_wp2_with fail
 go_loopg [7,8,9,10,13] 0 (fun gg s7 s8 s9 s10 s13 wr=>s13 = .int .i64 0∧Aside0 (Below w.heap.size w wr))
 case atStart=>exact ⟨rfl,⟨Below.refl _ _⟩⟩
 case round=>
 obtain ⟨rfl,HB⟩:=hrel
 go_wp2
 go_ret
 exact ⟨rfl,HB.out⟩
theorem cmplinks_nil (A:Option Addr) (c:Nat) (B:Option Addr) (d:Nat) (v:Value) (w:World):Calls Tryz.prog 94 #[.slice A 0 c,.slice B 0 d,v] w fun e w'=>e = .returned (.int .i64 0)∧Below w.heap.size w w':=by
 go_enter Tryz.func94,Tryz.ntmps94
 go_wp2_with fail
 go_loopg [7,8,9,10,13] 0 (fun gg s7 s8 s9 s10 s13 wr=>s13 = .int .i64 0∧Aside0 (Below w.heap.size w wr))
 case atStart=>exact ⟨rfl,⟨Below.refl _ _⟩⟩
 case round=>
 obtain ⟨rfl,HB⟩:=hrel
 go_wp2
 go_ret
 exact ⟨rfl,HB.out⟩
theorem cmpattrs_nil (A:Option Addr) (c:Nat) (B:Option Addr) (d:Nat) (w:World):Calls Tryz.prog 93 #[.slice A 0 c,.slice B 0 d] w fun e w'=>e = .returned (.int .i64 0)∧Below w.heap.size w w':=by
 go_enter Tryz.func93,Tryz.ntmps93
 go_wp2_with fail
 refine (cmpattr_nil _ _ _ _ _ _).mono ?_
 rintro e w1 ⟨rfl,hb⟩
 go_wp2_with fail
 go_ret
 exact ⟨rfl,hb⟩
theorem cs_eq (a:ByteArray) (w:World):Calls Tryz.prog 91 #[.string a,.string a] w fun e w'=>e = .returned (.int .i64 0)∧Below w.heap.size w w':=by
 refine (cmp_Compare_string.calls a a 0 w ?_).mono ?_
 ·have hb:∀ l,Op.bytesLess l l = false:=by
   intro l
   induction l with
   | nil=>rfl
   | cons x r ih=>simp [Op.bytesLess,ih]
  unfold cmp_Compare_string.f cmpStr
  rw [hb,if_neg (by decide),if_pos rfl]
 ·rintro e w' ⟨rfl,hb⟩
  first | exact ⟨rfl,hb⟩ | (obtain ⟨nd,rfl⟩:=hb;exact ⟨rfl,pw_below_drewN (Below.refl _ _) nd⟩)
theorem ci_eq0 (a:Int):cmp_Compare_int.f a a = some 0:=by
 unfold cmp_Compare_int.f cmp_isNaN_int.f
 simp
theorem ci_eq (a:Int) (w:World):Calls Tryz.prog 22 #[.int .i64 a,.int .i64 a] w fun e w'=>e = .returned (.int .i64 0)∧Below w.heap.size w w':=by
 refine (cmp_Compare_int.calls a a 0 w (ci_eq0 a)).mono ?_
 rintro e w' ⟨rfl,hb⟩
 first | exact ⟨rfl,hb⟩ | (obtain ⟨nd,rfl⟩:=hb;exact ⟨rfl,pw_below_drewN (Below.refl _ _) nd⟩)
theorem number_ex (b:Bool):∃ n,∀ w,Calls Tryz.prog 92 #[.bool b] w fun e w'=>e = .returned (.int .i64 n)∧Below w.heap.size w w':=by
 obtain ⟨n,hn⟩:∃ n,span_number.f b = some n:=by cases b <;> exact ⟨_,rfl⟩
 refine ⟨n,fun w=>(span_number.calls b n w hn).mono ?_⟩
 rintro e w' ⟨rfl,hb⟩
 first | exact ⟨rfl,hb⟩ | (obtain ⟨nd,rfl⟩:=hb;exact ⟨rfl,pw_below_drewN (Below.refl _ _) nd⟩)
theorem six_C {W:World} {g:Nat} {t:TypeId} {a0 a1 a2 a3 a4 a5:Int} (h:W.heap[g]? = some (.cells #[.int .i64 a0,.int .i64 a1,.int .i64 a2,.int .i64 a3,.int .i64 a4,.int .i64 a5] t (0,0))):Kd.C (Kd.int .i64) W (some ⟨g,0,none⟩) 6 [a0,a1,a2,a3,a4,a5]:=by
 refine ⟨rfl,by decide,fun _=>⟨⟨g,0,none⟩,rfl,fun j y hy=>⟨[.int .i64 y],rfl,rfl,fun i u hu=>?_⟩⟩⟩
 have hi:i = 0:=by
  have:=(List.getElem?_eq_some_iff.mp hu).1
  simpa using this
 subst hi
 have hc:=blk_cell h j
 match j with
 | 0 | 1 | 2 | 3 | 4 | 5=>
  simp at hy hu
  subst hy hu
  exact hc.trans rfl
 | j + 6=>simp at hy
theorem compare_six (a0 a1 a2 a3 a4 a5:Int):slices_Compare_int_int.f 20 [a0,a1,a2,a3,a4,a5] [a0,a1,a2,a3,a4,a5] = some 0:=by
 unfold slices_Compare_int_int.f
 simp [slices_Compare_int_int.l0,ci_eq0,wrap64]
theorem six_calls (A B:Option Addr) (a0 a1 a2 a3 a4 a5:Int) (W:World) (hA:Kd.C (Kd.int .i64) W A 6 [a0,a1,a2,a3,a4,a5]) (hB:Kd.C (Kd.int .i64) W B 6 [a0,a1,a2,a3,a4,a5]):
  Calls Tryz.prog 90 #[.slice A 6 6,.slice B 6 6] W fun e w'=>e = .returned (.int .i64 0)∧Below W.heap.size W w':=by
 refine (slices_Compare_int_int.calls 20 A 6 [a0,a1,a2,a3,a4,a5] B 6 [a0,a1,a2,a3,a4,a5] 0 W hA (Nat.le_refl _) hB (Nat.le_refl _) (compare_six _ _ _ _ _ _)).mono ?_
 rintro e w' ⟨rfl,nd,rfl⟩
 exact ⟨rfl,pw_below_drewN (Below.refl _ _) nd⟩
theorem or_nine (A:Option Addr) (c:Nat) (W:World) (hl:9 ≤ c) (hc:Kd.C (Kd.int .i64) W A 9 [0,0,0,0,0,0,0,0,0]):Calls Tryz.prog 21 #[.slice A 9 c] W fun e w'=>e = .returned (.int .i64 0)∧Below W.heap.size W w':=by
 refine (cmp_Or_int.calls 20 A c [0,0,0,0,0,0,0,0,0] 0 W hc hl (by kernel_rfl)).mono ?_
 rintro e w' ⟨rfl,hb⟩
 first | exact ⟨rfl,hb⟩ | (obtain ⟨nd,rfl⟩:=hb;exact ⟨rfl,pw_below_drewN (Below.refl _ _) nd⟩)
def scT.T3:Bool × List (List Nat × List Nat):=(true,[([],[]),([],[]),([0,1],[0,1]),([],[]),([3],[3]),([],[]),([5],[5]),([4,6,2],[4,6]),([],[]),([8],[8]),([],[]),([10],[10]),([9,11,7],[9,11]),([],[]),([13],[13]),([],[]),([15],[15]),([14,16,12],[14,16]),([],[]),([18],[18]),([],[]),([20],[20]),([19,21,17],[19,21]),([],[]),([23],[23]),([],[]),([25],[25]),([24,26,22],[24,26]),([],[]),([28],[28]),([29,27],[29]),([],[]),([31],[31]),([32,30],[32]),([30,33],[30,33]),([],[]),([35],[35]),([],[]),([37],[37]),([36,38,33],[36,38]),([],[]),([40],[40]),([],[]),([42],[42]),([41,43,39],[41,43]),([2,7,12,17,22,27,34,39,44],[2,7,12,17,22,27,34,39,44]),([45,44],[45]),([46,46,0,1,2,3,4,5,6,7,8,9,10,11,12,13,14,15,16,17,18,19,20,21,22,23,24,25,26,27,28,29,30,31,32,33,34,35,36,37,38,39,40,41,42,43,44,45,46],[46])])
def scT.B3:List Nat:=[0,0,3,0,8,0,32,127,0,256,0,1024,4095,0,8192,0,32768,131071,0,262144,0,1048576,4194303,0,8388608,0,33554432,134217727,0,268435456,1073741823,0,2147483648,8589934591,17179869183,0,34359738368,0,137438953472,532575944703,0,1099511627776,0,4398046511104,17575006175231,35184372088831,70368744177663,140737488355327]
theorem scT.tab3:rtab .any (opsOf Tryz.f67 3) = scT.T3:=by kernel_rfl
theorem scT.bits3:waitsOk scT.T3.2 scT.B3 = true:=by kernel_rfl
set_option maxHeartbeats 8000000 in
set_option maxRecDepth 100000 in
theorem cmpspan_eq (s:Sp) (A12:Option Addr) (c12:Nat) (A13:Option Addr) (c13:Nat) (B12:Option Addr) (d12:Nat) (B13:Option Addr) (d13:Nat) (w:World):Calls Tryz.prog 67 #[.agg (sv14 s A12 c12 A13 c13),.agg (sv14 s B12 d12 B13 d13)] w fun e w'=>e = .returned (.int .i64 0)∧Below w.heap.size w w':=by
 obtain ⟨n,hN⟩:=number_ex s.err
 have HN:=Aside0.mk hN
 clear hN
 go_enter Tryz.func67,Tryz.ntmps67
 go_upto_region 3 with fail
 obtain ⟨W0,HW0⟩:∃ W0,W0 = (((w.alloc (.cells (sv14 s A12 c12 A13 c13) 74)).alloc (.cells (sv14 s B12 d12 B13 d13) 74)).alloc (.cells #[.int .i64 s.tr,.int .i64 s.id,.int .i64 s.rev,.int .i64 s.par,.int .i64 s.clk,.int .i64 s.kind] 161)).alloc (.cells #[.int .i64 s.tr,.int .i64 s.id,.int .i64 s.rev,.int .i64 s.par,.int .i64 s.clk,.int .i64 s.kind] 161):=⟨_,rfl⟩
 have hb0:Below w.heap.size w W0:=by
  rw [HW0]
  repeat (first | exact Below.refl _ _ | apply below_alloc)
 have ha:W0.heap[w.heap.size]? = some (.cells (sv14 s A12 c12 A13 c13) 74 (0,0)):=by
  rw [HW0]
  exact blk_alloc (blk_alloc (blk_alloc (blk_new w _) _) _) _
 have hbb:W0.heap[w.heap.size + 1]? = some (.cells (sv14 s B12 d12 B13 d13) 74 (0,0)):=by
  rw [HW0]
  refine blk_alloc (blk_alloc ?_ _) _
  simpa using blk_new (w.alloc (.cells (sv14 s A12 c12 A13 c13) 74)) (.cells (sv14 s B12 d12 B13 d13) 74)
 have hxx:W0.heap[w.heap.size + 1 + 1]? = some (.cells #[.int .i64 s.tr,.int .i64 s.id,.int .i64 s.rev,.int .i64 s.par,.int .i64 s.clk,.int .i64 s.kind] 161 (0,0)):=by
  rw [HW0]
  refine blk_alloc ?_ _
  simpa using blk_new ((w.alloc (.cells (sv14 s A12 c12 A13 c13) 74)).alloc (.cells (sv14 s B12 d12 B13 d13) 74)) (.cells #[.int .i64 s.tr,.int .i64 s.id,.int .i64 s.rev,.int .i64 s.par,.int .i64 s.clk,.int .i64 s.kind] 161)
 have hyy:W0.heap[w.heap.size + 1 + 1 + 1]? = some (.cells #[.int .i64 s.tr,.int .i64 s.id,.int .i64 s.rev,.int .i64 s.par,.int .i64 s.clk,.int .i64 s.kind] 161 (0,0)):=by
  rw [HW0]
  simpa using blk_new (((w.alloc (.cells (sv14 s A12 c12 A13 c13) 74)).alloc (.cells (sv14 s B12 d12 B13 d13) 74)).alloc (.cells #[.int .i64 s.tr,.int .i64 s.id,.int .i64 s.rev,.int .i64 s.par,.int .i64 s.clk,.int .i64 s.kind] 161)) (.cells #[.int .i64 s.tr,.int .i64 s.id,.int .i64 s.rev,.int .i64 s.par,.int .i64 s.clk,.int .i64 s.kind] 161)
 rw [← HW0]
 clear HW0
 have HB0:=Aside0.mk hb0
 have HC:=Aside0.mk (fun W (hb:Below W0.heap.size W0 W)=>six_calls _ _ s.tr s.id s.rev s.par s.clk s.kind W (Kd.C_below (six_C hxx) hb) (Kd.C_below (six_C hyy) hb))
 have x6:W0.cell? ⟨w.heap.size,6,none⟩ = some (.string s.svc):=(blk_cell ha 6).trans rfl
 have x7:W0.cell? ⟨w.heap.size,7,none⟩ = some (.string s.ver):=(blk_cell ha 7).trans rfl
 have x8:W0.cell? ⟨w.heap.size,8,none⟩ = some (.string s.op):=(blk_cell ha 8).trans rfl
 have x9:W0.cell? ⟨w.heap.size,9,none⟩ = some (.int .i64 s.st):=(blk_cell ha 9).trans rfl
 have x10:W0.cell? ⟨w.heap.size,10,none⟩ = some (.int .i64 s.en):=(blk_cell ha 10).trans rfl
 have x11:W0.cell? ⟨w.heap.size,11,none⟩ = some (.bool s.err):=(blk_cell ha 11).trans rfl
 have x12:W0.cell? ⟨w.heap.size,12,none⟩ = some (.slice A12 0 c12):=(blk_cell ha 12).trans rfl
 have x13:W0.cell? ⟨w.heap.size,13,none⟩ = some (.slice A13 0 c13):=(blk_cell ha 13).trans rfl
 have y6:W0.cell? ⟨w.heap.size + 1,6,none⟩ = some (.string s.svc):=(blk_cell hbb 6).trans rfl
 have y7:W0.cell? ⟨w.heap.size + 1,7,none⟩ = some (.string s.ver):=(blk_cell hbb 7).trans rfl
 have y8:W0.cell? ⟨w.heap.size + 1,8,none⟩ = some (.string s.op):=(blk_cell hbb 8).trans rfl
 have y9:W0.cell? ⟨w.heap.size + 1,9,none⟩ = some (.int .i64 s.st):=(blk_cell hbb 9).trans rfl
 have y10:W0.cell? ⟨w.heap.size + 1,10,none⟩ = some (.int .i64 s.en):=(blk_cell hbb 10).trans rfl
 have y11:W0.cell? ⟨w.heap.size + 1,11,none⟩ = some (.bool s.err):=(blk_cell hbb 11).trans rfl
 have y12:W0.cell? ⟨w.heap.size + 1,12,none⟩ = some (.slice B12 0 d12):=(blk_cell hbb 12).trans rfl
 have y13:W0.cell? ⟨w.heap.size + 1,13,none⟩ = some (.slice B13 0 d13):=(blk_cell hbb 13).trans rfl
 clear ha hbb hxx hyy hb0
 refine start_ (n:=48) (S:=fun w'=>Below W0.heap.size W0 w') (ds:=[]) (bq 48 0) (by kernel_rfl) rfl rfl (Below.refl _ _).drew (fun hHeld=>?_)
 refine with_tabW scT.tab3 scT.bits3 (fun HT_ HW_=>?_)
 generalize W0.drew = wd at hHeld ⊢
 refine pu_ 0 (some 33) (bq 48 1) HT_ rfl rfl ?_
 refine pu_ 1 (some 34) (bq 48 3) HT_ rfl rfl ?_
 refine pu_ 3 (some 36) (bq 48 11) HT_ rfl rfl ?_
 refine tk_ 4 (some 37) (bq 48 27) HT_ HW_ rfl rfl hHeld ?_ (by intro w' hS;replace x6:=below_at hS x6;go_simp;with_reducible rfl)
 refine pu_ 5 (some 38) (bq 48 59) HT_ rfl rfl ?_
 refine tk_ 6 (some 39) (bq 48 123) HT_ HW_ rfl rfl hHeld ?_ (by intro w' hS;replace y6:=below_at hS y6;go_simp;with_reducible rfl)
 refine pu_ 8 (some 41) (bq 48 379) HT_ rfl rfl ?_
 refine tk_ 9 (some 42) (bq 48 891) HT_ HW_ rfl rfl hHeld ?_ (by intro w' hS;replace x7:=below_at hS x7;go_simp;with_reducible rfl)
 refine pu_ 10 (some 43) (bq 48 1915) HT_ rfl rfl ?_
 refine tk_ 11 (some 44) (bq 48 3963) HT_ HW_ rfl rfl hHeld ?_ (by intro w' hS;replace y7:=below_at hS y7;go_simp;with_reducible rfl)
 refine pu_ 13 (some 46) (bq 48 12155) HT_ rfl rfl ?_
 refine tk_ 14 (some 47) (bq 48 28539) HT_ HW_ rfl rfl hHeld ?_ (by intro w' hS;replace x8:=below_at hS x8;go_simp;with_reducible rfl)
 refine pu_ 15 (some 48) (bq 48 61307) HT_ rfl rfl ?_
 refine tk_ 16 (some 49) (bq 48 126843) HT_ HW_ rfl rfl hHeld ?_ (by intro w' hS;replace y8:=below_at hS y8;go_simp;with_reducible rfl)
 refine pu_ 18 (some 51) (bq 48 388987) HT_ rfl rfl ?_
 refine tk_ 19 (some 52) (bq 48 913275) HT_ HW_ rfl rfl hHeld ?_ (by intro w' hS;replace x9:=below_at hS x9;go_simp;with_reducible rfl)
 refine pu_ 20 (some 53) (bq 48 1961851) HT_ rfl rfl ?_
 refine tk_ 21 (some 54) (bq 48 4059003) HT_ HW_ rfl rfl hHeld ?_ (by intro w' hS;replace y9:=below_at hS y9;go_simp;with_reducible rfl)
 refine pu_ 23 (some 56) (bq 48 12447611) HT_ rfl rfl ?_
 refine tk_ 24 (some 57) (bq 48 29224827) HT_ HW_ rfl rfl hHeld ?_ (by intro w' hS;replace x10:=below_at hS x10;go_simp;with_reducible rfl)
 refine pu_ 25 (some 58) (bq 48 62779259) HT_ rfl rfl ?_
 refine tk_ 26 (some 59) (bq 48 129888123) HT_ HW_ rfl rfl hHeld ?_ (by intro w' hS;replace y10:=below_at hS y10;go_simp;with_reducible rfl)
 refine pu_ 28 (some 61) (bq 48 398323579) HT_ rfl rfl ?_
 refine tk_ 29 (some 62) (bq 48 935194491) HT_ HW_ rfl rfl hHeld ?_ (by intro w' hS;replace x11:=below_at hS x11;go_simp;with_reducible rfl)
 refine pu_ 31 (some 64) (bq 48 3082678139) HT_ rfl rfl ?_
 refine tk_ 32 (some 65) (bq 48 7377645435) HT_ HW_ rfl rfl hHeld ?_ (by intro w' hS;replace y11:=below_at hS y11;go_simp;with_reducible rfl)
 refine pu_ 35 (some 68) (bq 48 41737383803) HT_ rfl rfl ?_
 refine tk_ 36 (some 69) (bq 48 110456860539) HT_ HW_ rfl rfl hHeld ?_ (by intro w' hS;replace x12:=below_at hS x12;go_simp;with_reducible rfl)
 refine pu_ 37 (some 70) (bq 48 247895814011) HT_ rfl rfl ?_
 refine tk_ 38 (some 71) (bq 48 522773720955) HT_ HW_ rfl rfl hHeld ?_ (by intro w' hS;replace y12:=below_at hS y12;go_simp;with_reducible rfl)
 refine pu_ 40 (some 73) (bq 48 1622285348731) HT_ rfl rfl ?_
 refine tk_ 41 (some 74) (bq 48 3821308604283) HT_ HW_ rfl rfl hHeld ?_ (by intro w' hS;replace x13:=below_at hS x13;go_simp;with_reducible rfl)
 refine pu_ 42 (some 75) (bq 48 8219355115387) HT_ rfl rfl ?_
 refine tk_ 43 (some 76) (bq 48 17015448137595) HT_ HW_ rfl rfl hHeld ?_ (by intro w' hS;replace y13:=below_at hS y13;go_simp;with_reducible rfl)
 refine one_ (i:=2) (N:=some 35) (bq 48 17015448137599) rfl rfl (one_of HT_.out (by kernel_rfl)) (by decide) (fun K hK=>?_)
 refine goes_ Tryz.func90 (by kernel_rfl) rfl #[.slice (some ⟨w.heap.size + 1 + 1,0,none⟩) 6 6,.slice (some ⟨w.heap.size + 1 + 1 + 1,0,none⟩) 6 6] (by rfl) rfl rfl (by (try simp only [List.map_toArray,List.map_cons,List.map_nil]);first | done | rfl) ?_
 with_reducible refine (HC.out _ hHeld).mono ?_
 rintro e w2 ⟨rfl,hb⟩
 refine ⟨_,rfl,?_⟩
 replace hHeld:=below_step hHeld hb
 clear hb
 refine hK.out _ _ hHeld (fun hHeld=>?_)
 clear hK K
 refine norm_ (a':=?_) ?_ ?_
 rotate_left
 ·show Act.put _ (some 35) _ = _
  simp only [Act.put,List.setIfInBounds_toArray,List.set_cons_zero,List.set_cons_succ,i64_w,i32_w]
  rfl
 refine one_ (i:=7) (N:=some 40) (bq 48 17015448137727) rfl rfl (one_of HT_.out (by kernel_rfl)) (by decide) (fun K hK=>?_)
 refine goes_ Tryz.func91 (by kernel_rfl) rfl #[.string s.svc,.string s.svc] (by rfl) rfl rfl (by (try simp only [List.map_toArray,List.map_cons,List.map_nil]);first | done | rfl) ?_
 with_reducible refine (cs_eq s.svc _).mono ?_
 rintro e w7 ⟨rfl,hb⟩
 refine ⟨_,rfl,?_⟩
 replace hHeld:=below_step hHeld hb
 clear hb
 refine hK.out _ _ hHeld (fun hHeld=>?_)
 clear hK K
 refine norm_ (a':=?_) ?_ ?_
 rotate_left
 ·show Act.put _ (some 40) _ = _
  simp only [Act.put,List.setIfInBounds_toArray,List.set_cons_zero,List.set_cons_succ,i64_w,i32_w]
  rfl
 refine one_ (i:=12) (N:=some 45) (bq 48 17015448141823) rfl rfl (one_of HT_.out (by kernel_rfl)) (by decide) (fun K hK=>?_)
 refine goes_ Tryz.func91 (by kernel_rfl) rfl #[.string s.ver,.string s.ver] (by rfl) rfl rfl (by (try simp only [List.map_toArray,List.map_cons,List.map_nil]);first | done | rfl) ?_
 with_reducible refine (cs_eq s.ver _).mono ?_
 rintro e w12 ⟨rfl,hb⟩
 refine ⟨_,rfl,?_⟩
 replace hHeld:=below_step hHeld hb
 clear hb
 refine hK.out _ _ hHeld (fun hHeld=>?_)
 clear hK K
 refine norm_ (a':=?_) ?_ ?_
 rotate_left
 ·show Act.put _ (some 45) _ = _
  simp only [Act.put,List.setIfInBounds_toArray,List.set_cons_zero,List.set_cons_succ,i64_w,i32_w]
  rfl
 refine one_ (i:=17) (N:=some 50) (bq 48 17015448272895) rfl rfl (one_of HT_.out (by kernel_rfl)) (by decide) (fun K hK=>?_)
 refine goes_ Tryz.func91 (by kernel_rfl) rfl #[.string s.op,.string s.op] (by rfl) rfl rfl (by (try simp only [List.map_toArray,List.map_cons,List.map_nil]);first | done | rfl) ?_
 with_reducible refine (cs_eq s.op _).mono ?_
 rintro e w17 ⟨rfl,hb⟩
 refine ⟨_,rfl,?_⟩
 replace hHeld:=below_step hHeld hb
 clear hb
 refine hK.out _ _ hHeld (fun hHeld=>?_)
 clear hK K
 refine norm_ (a':=?_) ?_ ?_
 rotate_left
 ·show Act.put _ (some 50) _ = _
  simp only [Act.put,List.setIfInBounds_toArray,List.set_cons_zero,List.set_cons_succ,i64_w,i32_w]
  rfl
 refine one_ (i:=22) (N:=some 55) (bq 48 17015452467199) rfl rfl (one_of HT_.out (by kernel_rfl)) (by decide) (fun K hK=>?_)
 refine goes_ Tryz.func22 (by kernel_rfl) rfl #[.int .i64 s.st,.int .i64 s.st] (by rfl) rfl rfl (by (try simp only [List.map_toArray,List.map_cons,List.map_nil]);first | done | rfl) ?_
 with_reducible refine (ci_eq s.st _).mono ?_
 rintro e w22 ⟨rfl,hb⟩
 refine ⟨_,rfl,?_⟩
 replace hHeld:=below_step hHeld hb
 clear hb
 refine hK.out _ _ hHeld (fun hHeld=>?_)
 clear hK K
 refine norm_ (a':=?_) ?_ ?_
 rotate_left
 ·show Act.put _ (some 55) _ = _
  simp only [Act.put,List.setIfInBounds_toArray,List.set_cons_zero,List.set_cons_succ,i64_w,i32_w]
  rfl
 refine one_ (i:=27) (N:=some 60) (bq 48 17015586684927) rfl rfl (one_of HT_.out (by kernel_rfl)) (by decide) (fun K hK=>?_)
 refine goes_ Tryz.func22 (by kernel_rfl) rfl #[.int .i64 s.en,.int .i64 s.en] (by rfl) rfl rfl (by (try simp only [List.map_toArray,List.map_cons,List.map_nil]);first | done | rfl) ?_
 with_reducible refine (ci_eq s.en _).mono ?_
 rintro e w27 ⟨rfl,hb⟩
 refine ⟨_,rfl,?_⟩
 replace hHeld:=below_step hHeld hb
 clear hb
 refine hK.out _ _ hHeld (fun hHeld=>?_)
 clear hK K
 refine norm_ (a':=?_) ?_ ?_
 rotate_left
 ·show Act.put _ (some 60) _ = _
  simp only [Act.put,List.setIfInBounds_toArray,List.set_cons_zero,List.set_cons_succ,i64_w,i32_w]
  rfl
 refine one_ (i:=30) (N:=some 63) (bq 48 17016660426751) rfl rfl (one_of HT_.out (by kernel_rfl)) (by decide) (fun K hK=>?_)
 refine goes_ Tryz.func92 (by kernel_rfl) rfl #[.bool s.err] (by rfl) rfl rfl (by (try simp only [List.map_toArray,List.map_cons,List.map_nil]);first | done | rfl) ?_
 with_reducible refine (HN.out _).mono ?_
 rintro e w30 ⟨rfl,hb⟩
 refine ⟨_,rfl,?_⟩
 replace hHeld:=below_step hHeld hb
 clear hb
 refine hK.out _ _ hHeld (fun hHeld=>?_)
 clear hK K
 refine norm_ (a':=?_) ?_ ?_
 rotate_left
 ·show Act.put _ (some 63) _ = _
  simp only [Act.put,List.setIfInBounds_toArray,List.set_cons_zero,List.set_cons_succ,i64_w,i32_w]
  rfl
 refine one_ (i:=33) (N:=some 66) (bq 48 17025250361343) rfl rfl (one_of HT_.out (by kernel_rfl)) (by decide) (fun K hK=>?_)
 refine goes_ Tryz.func92 (by kernel_rfl) rfl #[.bool s.err] (by rfl) rfl rfl (by (try simp only [List.map_toArray,List.map_cons,List.map_nil]);first | done | rfl) ?_
 with_reducible refine (HN.out _).mono ?_
 rintro e w33 ⟨rfl,hb⟩
 refine ⟨_,rfl,?_⟩
 replace hHeld:=below_step hHeld hb
 clear hb
 refine hK.out _ _ hHeld (fun hHeld=>?_)
 clear hK K
 refine norm_ (a':=?_) ?_ ?_
 rotate_left
 ·show Act.put _ (some 66) _ = _
  simp only [Act.put,List.setIfInBounds_toArray,List.set_cons_zero,List.set_cons_succ,i64_w,i32_w]
  rfl
 refine pu_ 34 (some 67) (bq 48 17042430230527) HT_ rfl rfl ?_ (hy:=by intro w';go_simp;rw [show IntKind.i64.wrap 0 = 0 from rfl])
 refine one_ (i:=39) (N:=some 72) (bq 48 17592186044415) rfl rfl (one_of HT_.out (by kernel_rfl)) (by decide) (fun K hK=>?_)
 refine goes_ Tryz.func93 (by kernel_rfl) rfl #[.slice A12 0 c12,.slice B12 0 d12] (by rfl) rfl rfl (by (try simp only [List.map_toArray,List.map_cons,List.map_nil]);first | done | rfl) ?_
 with_reducible refine (cmpattrs_nil _ _ _ _ _).mono ?_
 rintro e w39 ⟨rfl,hb⟩
 refine ⟨_,rfl,?_⟩
 replace hHeld:=below_step hHeld hb
 clear hb
 refine hK.out _ _ hHeld (fun hHeld=>?_)
 clear hK K
 refine norm_ (a':=?_) ?_ ?_
 rotate_left
 ·show Act.put _ (some 72) _ = _
  simp only [Act.put,List.setIfInBounds_toArray,List.set_cons_zero,List.set_cons_succ,i64_w,i32_w]
  rfl
 refine one_ (i:=44) (N:=some 77) (bq 48 35184372088831) rfl rfl (one_of HT_.out (by kernel_rfl)) (by decide) (fun K hK=>?_)
 refine goes_ Tryz.func94 (by kernel_rfl) rfl #[.slice A13 0 c13,.slice B13 0 d13,.func (.func 95) #[] #[]] (by rfl) rfl rfl (by (try simp only [List.map_toArray,List.map_cons,List.map_nil]);first | done | rfl) ?_
 with_reducible refine (cmplinks_nil _ _ _ _ _ _).mono ?_
 rintro e w44 ⟨rfl,hb⟩
 refine ⟨_,rfl,?_⟩
 replace hHeld:=below_step hHeld hb
 clear hb
 refine hK.out _ _ hHeld (fun hHeld=>?_)
 clear hK K
 refine norm_ (a':=?_) ?_ ?_
 rotate_left
 ·show Act.put _ (some 77) _ = _
  simp only [Act.put,List.setIfInBounds_toArray,List.set_cons_zero,List.set_cons_succ,i64_w,i32_w]
  rfl
 refine one_ (i:=45) (N:=some 78) (bq 48 70368744177663) rfl rfl (one_of HT_.out (by kernel_rfl)) (by decide) (fun K hK=>?_)
 refine Kd.R_lit_step (Kd.int .i64) (w0:=W0) W0.heap.size 3 (by rfl) (N:=78) rfl (xs:=[0,0,0,0,0,0,0,0,0]) (inner:=[.int .i64 0,.int .i64 0,.int .i64 0,.int .i64 0,.int .i64 0,.int .i64 0,.int .i64 0,.int .i64 0,.int .i64 0]) (ok:=fun _=>True) (okp:=fun _=>False) (by go_simp) (Reps.one (show Kd.M (Kd.int .i64) _ _ _ 0 [.int .i64 0] from rfl) (Reps.one (show Kd.M (Kd.int .i64) _ _ _ 0 [.int .i64 0] from rfl) (Reps.one (show Kd.M (Kd.int .i64) _ _ _ 0 [.int .i64 0] from rfl) (Reps.one (show Kd.M (Kd.int .i64) _ _ _ 0 [.int .i64 0] from rfl) (Reps.one (show Kd.M (Kd.int .i64) _ _ _ 0 [.int .i64 0] from rfl) (Reps.one (show Kd.M (Kd.int .i64) _ _ _ 0 [.int .i64 0] from rfl) (Reps.one (show Kd.M (Kd.int .i64) _ _ _ 0 [.int .i64 0] from rfl) (Reps.one (show Kd.M (Kd.int .i64) _ _ _ 0 [.int .i64 0] from rfl) (Reps.one (show Kd.M (Kd.int .i64) _ _ _ 0 [.int .i64 0] from rfl) (Reps.none _ _)))))))))) (fun _ h=>h.elim) trivial hHeld hHeld.size (by simp) ?_
 intro v54 W54 hr54 hb54 hg54 ho54
 obtain ⟨A5,c5,e5,hl5,hc5⟩:=Kd.R_reads hr54
 subst e5
 refine hK.out _ _ hb54 (fun hHeld=>?_)
 clear hK K
 refine norm_ (a':=?_) ?_ ?_
 rotate_left
 ·show Act.put _ (some 78) _ = _
  simp only [Act.put,List.setIfInBounds_toArray,List.set_cons_zero,List.set_cons_succ,i64_w,i32_w]
  rfl
 have HOR:=Aside0.mk (or_nine A5 c5 _ hl5 hc5)
 clear hr54 hg54 ho54 hb54
 refine one_ (i:=46) (N:=some 79) (bq 48 140737488355327) rfl rfl (one_of HT_.out (by kernel_rfl)) (by decide) (fun K hK=>?_)
 refine goes_ Tryz.func21 (by kernel_rfl) rfl #[.slice A5 9 c5] (by rfl) rfl rfl (by (try simp only [List.map_toArray,List.map_cons,List.map_nil]);first | done | rfl) ?_
 with_reducible refine (HOR.out).mono ?_
 rintro e w46 ⟨rfl,hb⟩
 refine ⟨_,rfl,?_⟩
 replace hHeld:=below_step hHeld hb
 clear hb
 refine hK.out _ _ hHeld (fun hHeld=>?_)
 clear hK K
 refine norm_ (a':=?_) ?_ ?_
 rotate_left
 ·show Act.put _ (some 79) _ = _
  simp only [Act.put,List.setIfInBounds_toArray,List.set_cons_zero,List.set_cons_succ,i64_w,i32_w]
  rfl
 refine pu_ 47 (some 4) (bq 48 281474976710655) HT_ rfl rfl ?_
 refine done_ (done_of HT_.out (by kernel_rfl)) ?_
 clear x6 y6 x7 y7 x8 y8 x9 y9 x10 y10 x11 y11 x12 y12 x13 y13 HC HN HOR
 go_wp2
 go_ret
 exact ⟨rfl,below_step HB0.out hHeld⟩
theorem equal_eq (s:Sp) (A12:Option Addr) (c12:Nat) (A13:Option Addr) (c13:Nat) (B12:Option Addr) (d12:Nat) (B13:Option Addr) (d13:Nat) (w:World):Calls Tryz.prog 39 #[.agg (sv14 s A12 c12 A13 c13),.agg (sv14 s B12 d12 B13 d13)] w fun e w'=>e = .returned (.bool true)∧Below w.heap.size w w':=by
 go_enter Tryz.func39,Tryz.ntmps39
 have hb0:Below w.heap.size w ((w.alloc (.cells (sv14 s A12 c12 A13 c13) 74)).alloc (.cells (sv14 s B12 d12 B13 d13) 74)):=below_alloc (below_alloc (Below.refl _ _) _) _
 go_wp2_with fail
 refine (cmpspan_eq s A12 c12 A13 c13 B12 d12 B13 d13 _).mono ?_
 rintro e w1 ⟨rfl,hb⟩
 have HB:=Aside0.mk (below_step hb0 hb)
 clear hb hb0
 go_wp2
 go_ret
 exact ⟨rfl,HB.out⟩
def ssT.T6:Bool × List (List Nat × List Nat):=(true,[([],[]),([],[]),([0,1],[0,1]),([2],[2]),([],[]),([],[]),([4,5],[4,5]),([6],[6]),([3,7],[3,7]),([8],[8])])
def ssT.B6:List Nat:=[0,0,3,7,0,0,48,112,255,511]
theorem ssT.tab6:rtab .any (opsOf Tryz.f24 6) = ssT.T6:=by kernel_rfl
theorem ssT.bits6:waitsOk ssT.T6.2 ssT.B6 = true:=by kernel_rfl
theorem rdS_at (l:List Sp) (i:Nat) (h:i < l.length):rd_T74 (l.map toS) (i:Int) = toS l[i]:=by
 unfold rd_T74
 simp [List.getD_eq_getElem?_getD,h]
set_option maxHeartbeats 8000000 in
set_option maxRecDepth 100000 in
theorem sameSpans_eq (A:Option Addr) (c:Nat) (B:Option Addr) (d:Nat) (l:List Sp) (w:World) (hA:Kd.C k74 w A l.length (l.map toS)) (hB:Kd.C k74 w B l.length (l.map toS)):
  Calls Tryz.prog 24 #[.slice A l.length c,.slice B l.length d] w fun e w'=>e = .returned (.bool true)∧Below w.heap.size w w':=by
 have HA:=Aside0.mk hA
 have HB:=Aside0.mk hB
 have hn:l.length ≤ 9223372036854775807:=hA.2.1
 clear hA hB
 go_enter Tryz.func24,Tryz.ntmps24
 go_wp2_with fail
 go_loopg [5] l.length (fun gg s5 wr=>∃ i:Nat,i ≤ l.length∧l.length - i ≤ gg∧s5 = .int .i64 (i:Int)∧Aside0 (Below w.heap.size w wr))
 case atStart=>exact ⟨0,Nat.zero_le _,by omega,rfl,⟨Below.refl _ _⟩⟩
 case round=>
 obtain ⟨i,hi,hgi,rfl,HW⟩:=hrel
 by_cases hlt:i < l.length
 ·obtain ⟨ad,A12,c12,A13,c13,e,a0,a1,a2,a3,a4,a5,a6,a7,a8,a9,a10,a11,a12,a13,-⟩:=at_T74 HA.out (i:Int) (by omega) (by omega)
  obtain ⟨ae,B12,d12,B13,d13,e2,b0,b1,b2,b3,b4,b5,b6,b7,b8,b9,b10,b11,b12,b13,-⟩:=at_T74 HB.out (i:Int) (by omega) (by omega)
  subst e e2
  rw [rdS_at l i hlt] at a0 a1 a2 a3 a4 a5 a6 a7 a8 a9 a10 a11 a12 a13 b0 b1 b2 b3 b4 b5 b6 b7 b8 b9 b10 b11 b12 b13
  generalize l[i] = s at a0 a1 a2 a3 a4 a5 a6 a7 a8 a9 a10 a11 a12 a13 b0 b1 b2 b3 b4 b5 b6 b7 b8 b9 b10 b11 b12 b13
  simp only [Int.toNat_natCast,toS,List.length_nil] at a0 a1 a2 a3 a4 a5 a6 a7 a8 a9 a10 a11 a12 a13 b0 b1 b2 b3 b4 b5 b6 b7 b8 b9 b10 b11 b12 b13
  replace a0:=below_at HW.out a0
  replace a1:=below_at HW.out a1
  replace a2:=below_at HW.out a2
  replace a3:=below_at HW.out a3
  replace a4:=below_at HW.out a4
  replace a5:=below_at HW.out a5
  replace a6:=below_at HW.out a6
  replace a7:=below_at HW.out a7
  replace a8:=below_at HW.out a8
  replace a9:=below_at HW.out a9
  replace a10:=below_at HW.out a10
  replace a11:=below_at HW.out a11
  replace a12:=below_at HW.out a12
  replace a13:=below_at HW.out a13
  replace b0:=below_at HW.out b0
  replace b1:=below_at HW.out b1
  replace b2:=below_at HW.out b2
  replace b3:=below_at HW.out b3
  replace b4:=below_at HW.out b4
  replace b5:=below_at HW.out b5
  replace b6:=below_at HW.out b6
  replace b7:=below_at HW.out b7
  replace b8:=below_at HW.out b8
  replace b9:=below_at HW.out b9
  replace b10:=below_at HW.out b10
  replace b11:=below_at HW.out b11
  replace b12:=below_at HW.out b12
  replace b13:=below_at HW.out b13
  have hz1:(i:Int) < (l.length:Int):=by omega
  go_upto_region 6 with fail
  refine start_ (n:=10) (S:=fun w'=>Below wr.heap.size wr w') (ds:=[]) (bq 10 0) (by kernel_rfl) rfl rfl (Below.refl _ _).drew (fun hHeld=>?_)
  refine with_tabW ssT.tab6 ssT.bits6 (fun HT_ HW_=>?_)
  generalize wr.drew = wd at hHeld ⊢
  refine pu_ 0 (some 17) (bq 10 1) HT_ rfl rfl ?_
  refine pu_ 1 (some 18) (bq 10 3) HT_ rfl rfl ?_
  refine pu_ 2 (some 19) (bq 10 7) HT_ rfl rfl ?_
  refine tk_ 3 (some 20) (bq 10 15) HT_ HW_ rfl rfl hHeld ?_ (by intro w' hS;replace a0:=below_at hS a0;replace a1:=below_at hS a1;replace a2:=below_at hS a2;replace a3:=below_at hS a3;replace a4:=below_at hS a4;replace a5:=below_at hS a5;replace a6:=below_at hS a6;replace a7:=below_at hS a7;replace a8:=below_at hS a8;replace a9:=below_at hS a9;replace a10:=below_at hS a10;replace a11:=below_at hS a11;replace a12:=below_at hS a12;replace a13:=below_at hS a13;go_simp;with_reducible rfl)
  refine pu_ 4 (some 21) (bq 10 31) HT_ rfl rfl ?_
  refine pu_ 5 (some 22) (bq 10 63) HT_ rfl rfl ?_
  refine pu_ 6 (some 23) (bq 10 127) HT_ rfl rfl ?_
  refine tk_ 7 (some 24) (bq 10 255) HT_ HW_ rfl rfl hHeld ?_ (by intro w' hS;replace b0:=below_at hS b0;replace b1:=below_at hS b1;replace b2:=below_at hS b2;replace b3:=below_at hS b3;replace b4:=below_at hS b4;replace b5:=below_at hS b5;replace b6:=below_at hS b6;replace b7:=below_at hS b7;replace b8:=below_at hS b8;replace b9:=below_at hS b9;replace b10:=below_at hS b10;replace b11:=below_at hS b11;replace b12:=below_at hS b12;replace b13:=below_at hS b13;go_simp;with_reducible rfl)
  refine one_ (i:=8) (N:=some 25) (bq 10 511) rfl rfl (one_of HT_.out (by kernel_rfl)) (by decide) (fun K hK=>?_)
  refine goes_ Tryz.func39 (by kernel_rfl) rfl #[.agg (sv14 s A12 c12 A13 c13),.agg (sv14 s B12 d12 B13 d13)] (by rfl) rfl rfl (by (try simp only [List.map_toArray,List.map_cons,List.map_nil]);first | done | rfl) ?_
  with_reducible refine (equal_eq s A12 c12 A13 c13 B12 d12 B13 d13 _).mono ?_
  rintro e w8 ⟨rfl,hb⟩
  refine ⟨_,rfl,?_⟩
  replace hHeld:=below_step hHeld hb
  clear hb
  refine hK.out _ _ hHeld (fun hHeld=>?_)
  clear hK K
  refine norm_ (a':=?_) ?_ ?_
  rotate_left
  ·show Act.put _ (some 25) _ = _
   simp only [Act.put,List.setIfInBounds_toArray,List.set_cons_zero,List.set_cons_succ,i64_w,i32_w]
   rfl
  refine pu_ 9 (some 26) (bq 10 1023) HT_ rfl rfl ?_
  refine done_ (done_of HT_.out (by kernel_rfl)) ?_
  have HW2:=Aside0.mk (below_step HW.out hHeld)
  clear hHeld HW a0 a1 a2 a3 a4 a5 a6 a7 a8 a9 a10 a11 a12 a13 b0 b1 b2 b3 b4 b5 b6 b7 b8 b9 b10 b11 b12 b13
  go_wp2
  go_roundg (l.length - (i + 1))
  case measure=>omega
  case rel=>exact ⟨i + 1,by omega,by omega,by first | rfl | go_num,HW2⟩
 ·have hz1:decide (i < l.length) = false:=by simp;omega
  have hz2:decide ((i:Int) < (l.length:Int)) = false:=by simp;omega
  clear hlt
  go_wp2
  go_ret
  exact ⟨rfl,HW.out⟩
def FrRd (w:World) (A:Option Addr) (l:List Fr):Prop:=l.length ≤ 9223372036854775807∧∀ i (h:i < l.length),∃ (ad:Addr) (A2:Option Addr) (c2:Nat) (A3:Option Addr) (c3:Nat),A = some ad∧w.cell? (ad.add (i * 4)) = some (.int .i64 l[i].agent)∧w.cell? ⟨(ad.add (i * 4)).block,(ad.add (i * 4)).off + 1,none⟩ = some (.int .i64 l[i].seq)∧w.cell? ⟨(ad.add (i * 4)).block,(ad.add (i * 4)).off + 2,none⟩ = some (.slice A2 l[i].l.length c2)∧w.cell? ⟨(ad.add (i * 4)).block,(ad.add (i * 4)).off + 3,none⟩ = some (.slice A3 0 c3)∧Kd.C k74 w A2 l[i].l.length (l[i].l.map toS)
theorem FrRd.below {w w':World} {A:Option Addr} {l:List Fr} (h:FrRd w A l) (hb:Below w.heap.size w w'):FrRd w' A l:=⟨h.1,fun i hi=>by
 obtain ⟨ad,A2,c2,A3,c3,e,a0,a1,a2,a3,hk⟩:=h.2 i hi
 exact ⟨ad,A2,c2,A3,c3,e,(hb.cell (World.block_lt_of_cell? _ _ a0)).trans a0,(hb.cell (World.block_lt_of_cell? _ _ a1)).trans a1,(hb.cell (World.block_lt_of_cell? _ _ a2)).trans a2,(hb.cell (World.block_lt_of_cell? _ _ a3)).trans a3,Kd.C_below hk hb⟩⟩
theorem frc_at (xs:List (Fr × Value)):∀ j,(hj:j < xs.length)→((frc xs).drop (j * 4)).take 4 = [.int .i64 xs[j].1.agent,.int .i64 xs[j].1.seq,xs[j].2,.slice none 0 0]:=by
 induction xs with
 | nil=>intro j hj;simp at hj
 | cons x r ih=>
  intro j hj
  match j with
  | 0=>simp [frc]
  | j + 1=>
   simp only [frc,List.getElem_cons_succ]
   rw [show (j + 1) * 4 = j * 4 + 4 from by omega]
   have:=ih j (by simpa using hj)
   simpa using this
theorem FsOut.reads {b:Nat} {w:World} {fs:List Fr} {v:Value} (h:FsOut b w fs v) (hn:fs.length ≤ 9223372036854775807):∃ A c,v = .slice A fs.length c∧FrRd w A fs:=by
 obtain ⟨xs,rfl,ho,hr⟩:=h
 obtain ⟨A,c,rfl⟩:=own_slice ho
 refine ⟨A,c,by rw [List.length_map],hn,fun i hi=>?_⟩
 rw [List.length_map] at hi
 have hs:=(hr (xs[i].1.l,xs[i].2) (List.mem_map_of_mem (List.getElem_mem hi))).1
 obtain ⟨A2,c2,e2,hc2,hk⟩:=spc_reads hs
 dsimp only at e2
 rw [List.length_map] at hk e2
 rcases ho.2 with ⟨_,h0⟩ | ⟨r,cap,cur,e,hb,hr2,h1,h2,h3,h4⟩
 ·omega
 ·injection e with e
  subst e
  have ht:=frc_at xs i hi
  have hl:=frc_len xs
  have hc:∀ q,q < 4→cur[i * 4 + q]? = [Value.int .i64 xs[i].1.agent,.int .i64 xs[i].1.seq,xs[i].2,.slice none 0 0][q]?:=fun q hq=>by
   rw [← ht,List.getElem?_take,if_pos hq,List.getElem?_drop,← h4,List.getElem?_take,if_pos (by omega),Array.getElem?_toList]
  simp only [List.getElem_map]
  have ha:(⟨r,0,none⟩:Addr).add (i * 4) = ⟨r,i * 4,none⟩:=by simp only [Addr.add,Nat.zero_add];first | done | rfl | (simp;omega)
  refine ⟨⟨r,0,none⟩,A2,c2,none,0,rfl,?_,?_,?_,?_,hk⟩
  ·rw [ha,blk_cell hr2];exact hc 0 (by omega)
  ·rw [ha,blk_cell hr2];exact hc 1 (by omega)
  ·rw [ha,blk_cell hr2,← e2];exact hc 2 (by omega)
  ·rw [ha,blk_cell hr2];exact hc 3 (by omega)
def sfT.T6:Bool × List (List Nat × List Nat):=(true,[([],[]),([],[]),([0,1],[0,1]),([2],[2]),([3],[3]),([],[]),([],[]),([5,6],[5,6]),([7],[7]),([8],[8]),([4,9],[4,9]),([10],[10]),([11],[11]),([11],[11]),([12,13,11],[11,12,13]),([14,11],[11,14]),([15,11],[11,15]),([11],[11]),([11],[11]),([17,18,11],[11,17,18]),([19,11],[11,19]),([20,11],[11,20]),([16,21,11],[11,16,21]),([11,22],[11,22]),([23,11],[23]),([24],[24]),([24],[24]),([25,26,24],[24,25,26]),([27,24],[24,27]),([28,24],[24,28]),([24],[24]),([24],[24]),([30,31,24],[24,30,31]),([32,24],[24,32]),([33,24],[24,33]),([29,34,24,24],[24,29,34]),([35,24],[24,35]),([24,36],[24,36]),([37,35],[37]),([38],[38]),([38],[38]),([39,40,38],[38,39,40]),([41,38],[38,41]),([42,38],[38,42]),([43,38],[38,43]),([38],[38]),([38],[38]),([45,46,38],[38,45,46]),([47,38],[38,47]),([48,38],[38,48]),([49,38],[38,49]),([44,50,38],[38,44,50]),([51,38],[38,51]),([38,52],[38,52])])
def sfT.B6:List Nat:=[0,0,3,7,15,0,0,96,224,480,1023,2047,4095,4095,16383,32767,65535,4095,4095,397311,921599,1970175,4194303,8388607,16777215,33554431,33554431,134217727,268435455,536870911,33554431,33554431,3254779903,7549747199,16139681791,34359738367,68719476735,137438953471,274877906943,549755813887,549755813887,2199023255551,4398046511103,8796093022207,17592186044415,549755813887,549755813887,106102872080383,246840360435711,528315337146367,1091265290567679,2251799813685247,4503599627370495,9007199254740991]
theorem sfT.tab6:rtab .any (opsOf Tryz.f8 6) = sfT.T6:=by kernel_rfl
theorem sfT.bits6:waitsOk sfT.T6.2 sfT.B6 = true:=by kernel_rfl
set_option maxHeartbeats 8000000 in
set_option maxRecDepth 100000 in
theorem sameFragments_eq (A:Option Addr) (c:Nat) (B:Option Addr) (d:Nat) (l:List Fr) (w:World) (hA:FrRd w A l) (hB:FrRd w B l):
  Calls Tryz.prog 8 #[.slice A l.length c,.slice B l.length d] w fun e w'=>e = .returned (.bool true)∧Below w.heap.size w w':=by
 have HA:=Aside0.mk hA
 have HB':=Aside0.mk hB
 have hn:=hA.1
 clear hA hB
 have hz0:((l.length:Int) != (l.length:Int)) = false:=by simp
 go_enter Tryz.func8,Tryz.ntmps8
 go_wp2_with fail
 clear hz0
 go_loopg [5] l.length (fun gg s5 wr=>∃ i:Nat,i ≤ l.length∧l.length - i ≤ gg∧s5 = .int .i64 (i:Int)∧Aside0 (Below w.heap.size w wr))
 case atStart=>exact ⟨0,Nat.zero_le _,by omega,rfl,⟨Below.refl _ _⟩⟩
 case round=>
 obtain ⟨i,hi,hgi,rfl,HB⟩:=hrel
 by_cases hlt:i < l.length
 ·obtain ⟨ad,A2,c2,A3,c3,e,a0,a1,a2,a3,ka⟩:=(HA.out.below HB.out).2 i hlt
  subst e
  obtain ⟨bd,B2,d2,B3,d3,e,b0,b1,b2,b3,kb⟩:=(HB'.out.below HB.out).2 i hlt
  subst e
  have HSS:=Aside0.mk (fun W (hb:Below wr.heap.size wr W)=>sameSpans_eq A2 c2 B2 d2 l[i].l W (Kd.C_below ka hb) (Kd.C_below kb hb))
  generalize l[i] = x at a0 a1 a2 b0 b1 b2 HSS
  clear ka kb
  have hz1:(i:Int) < (l.length:Int):=by omega
  have s1:IntKind.i64.wrap ((i:Int) + 1) = (i:Int) + 1:=IntWalk.i64_in _ (by omega)
  go_upto_region 6 with fail
  refine start_ (n:=54) (S:=fun w'=>Below wr.heap.size wr w') (ds:=[]) (bq 54 0) (by kernel_rfl) rfl rfl (Below.refl _ _).drew (fun hHeld=>?_)
  refine with_tabW sfT.tab6 sfT.bits6 (fun HT_ HW_=>?_)
  generalize wr.drew = wd at hHeld ⊢
  refine pu_ 0 (some 17) (bq 54 1) HT_ rfl rfl ?_
  refine pu_ 1 (some 18) (bq 54 3) HT_ rfl rfl ?_
  refine pu_ 2 (some 19) (bq 54 7) HT_ rfl rfl ?_
  refine pu_ 3 (some 20) (bq 54 15) HT_ rfl rfl ?_
  refine tk_ 4 (some 21) (bq 54 31) HT_ HW_ rfl rfl hHeld ?_ (by intro w' hS;replace a0:=below_at hS a0;go_simp;with_reducible rfl)
  refine pu_ 5 (some 22) (bq 54 63) HT_ rfl rfl ?_
  refine pu_ 6 (some 23) (bq 54 127) HT_ rfl rfl ?_
  refine pu_ 7 (some 24) (bq 54 255) HT_ rfl rfl ?_
  refine pu_ 8 (some 25) (bq 54 511) HT_ rfl rfl ?_
  refine tk_ 9 (some 26) (bq 54 1023) HT_ HW_ rfl rfl hHeld ?_ (by intro w' hS;replace b0:=below_at hS b0;go_simp;with_reducible rfl)
  refine pu_ 10 (some 27) (bq 54 2047) HT_ rfl rfl ?_
  refine pu_ 11 (some 28) (bq 54 4095) HT_ rfl rfl ?_
  refine pu_ 12 (some 29) (bq 54 8191) HT_ rfl rfl ?_
  refine pu_ 13 (some 30) (bq 54 16383) HT_ rfl rfl ?_
  refine pu_ 14 (some 31) (bq 54 32767) HT_ rfl rfl ?_
  refine pu_ 15 (some 32) (bq 54 65535) HT_ rfl rfl ?_
  refine tk_ 16 (some 33) (bq 54 131071) HT_ HW_ rfl rfl hHeld ?_ (by intro w' hS;replace a1:=below_at hS a1;go_simp;with_reducible rfl)
  refine pu_ 17 (some 34) (bq 54 262143) HT_ rfl rfl ?_
  refine pu_ 18 (some 35) (bq 54 524287) HT_ rfl rfl ?_
  refine pu_ 19 (some 36) (bq 54 1048575) HT_ rfl rfl ?_
  refine pu_ 20 (some 37) (bq 54 2097151) HT_ rfl rfl ?_
  refine tk_ 21 (some 38) (bq 54 4194303) HT_ HW_ rfl rfl hHeld ?_ (by intro w' hS;replace b1:=below_at hS b1;go_simp;with_reducible rfl)
  refine pu_ 22 (some 39) (bq 54 8388607) HT_ rfl rfl ?_
  refine pu_ 23 (some 40) (bq 54 16777215) HT_ rfl rfl ?_
  refine pu_ 24 (some 41) (bq 54 33554431) HT_ rfl rfl ?_
  refine pu_ 25 (some 42) (bq 54 67108863) HT_ rfl rfl ?_
  refine pu_ 26 (some 43) (bq 54 134217727) HT_ rfl rfl ?_
  refine pu_ 27 (some 44) (bq 54 268435455) HT_ rfl rfl ?_
  refine pu_ 28 (some 45) (bq 54 536870911) HT_ rfl rfl ?_
  refine tk_ 29 (some 46) (bq 54 1073741823) HT_ HW_ rfl rfl hHeld ?_ (by intro w' hS;replace a2:=below_at hS a2;go_simp;with_reducible rfl)
  refine pu_ 30 (some 47) (bq 54 2147483647) HT_ rfl rfl ?_
  refine pu_ 31 (some 48) (bq 54 4294967295) HT_ rfl rfl ?_
  refine pu_ 32 (some 49) (bq 54 8589934591) HT_ rfl rfl ?_
  refine pu_ 33 (some 50) (bq 54 17179869183) HT_ rfl rfl ?_
  refine tk_ 34 (some 51) (bq 54 34359738367) HT_ HW_ rfl rfl hHeld ?_ (by intro w' hS;replace b2:=below_at hS b2;go_simp;with_reducible rfl)
  refine one_ (i:=35) (N:=some 52) (bq 54 68719476735) rfl rfl (one_of HT_.out (by kernel_rfl)) (by decide) (fun K hK=>?_)
  refine goes_ Tryz.func24 (by kernel_rfl) rfl #[.slice A2 x.l.length c2,.slice B2 x.l.length d2] (by rfl) rfl rfl (by (try simp only [List.map_toArray,List.map_cons,List.map_nil]);first | done | rfl) ?_
  with_reducible refine (HSS.out _ hHeld).mono ?_
  rintro e wx ⟨rfl,hb⟩
  refine ⟨_,rfl,?_⟩
  replace hHeld:=below_step hHeld hb
  clear hb
  refine hK.out _ _ hHeld (fun hHeld=>?_)
  clear hK K
  refine norm_ (a':=?_) ?_ ?_
  rotate_left
  ·show Act.put _ (some 52) _ = _
   simp only [Act.put,List.setIfInBounds_toArray,List.set_cons_zero,List.set_cons_succ,i64_w,i32_w]
   rfl
  refine pu_ 36 (some 53) (bq 54 137438953471) HT_ rfl rfl ?_
  refine pu_ 37 (some 54) (bq 54 274877906943) HT_ rfl rfl ?_
  refine pu_ 38 (some 55) (bq 54 549755813887) HT_ rfl rfl ?_
  refine pu_ 39 (some 56) (bq 54 1099511627775) HT_ rfl rfl ?_
  refine pu_ 40 (some 57) (bq 54 2199023255551) HT_ rfl rfl ?_
  refine pu_ 41 (some 58) (bq 54 4398046511103) HT_ rfl rfl ?_
  refine pu_ 42 (some 59) (bq 54 8796093022207) HT_ rfl rfl ?_
  refine tk_ 43 (some 60) (bq 54 17592186044415) HT_ HW_ rfl rfl hHeld ?_ (by intro w' hS;replace a3:=below_at hS a3;go_simp;with_reducible rfl)
  refine pu_ 44 (some 61) (bq 54 35184372088831) HT_ rfl rfl ?_
  refine pu_ 45 (some 62) (bq 54 70368744177663) HT_ rfl rfl ?_
  refine pu_ 46 (some 63) (bq 54 140737488355327) HT_ rfl rfl ?_
  refine pu_ 47 (some 64) (bq 54 281474976710655) HT_ rfl rfl ?_
  refine pu_ 48 (some 65) (bq 54 562949953421311) HT_ rfl rfl ?_
  refine tk_ 49 (some 66) (bq 54 1125899906842623) HT_ HW_ rfl rfl hHeld ?_ (by intro w' hS;replace b3:=below_at hS b3;go_simp;with_reducible rfl)
  refine pu_ 50 (some 67) (bq 54 2251799813685247) HT_ rfl rfl ?_
  refine pu_ 51 (some 68) (bq 54 4503599627370495) HT_ rfl rfl ?_
  refine pu_ 52 (some 69) (bq 54 9007199254740991) HT_ rfl rfl ?_
  refine pu_ 53 (some 70) (bq 54 18014398509481983) HT_ rfl rfl ?_
  refine done_ (done_of HT_.out (by kernel_rfl)) ?_
  replace HB:=Aside0.mk (below_step HB.out hHeld)
  clear hHeld a0 a1 a2 a3 b0 b1 b2 b3
  have hw0:wrap64 (0:Int) = 0:=by unfold wrap64;omega
  have hw1:decide ((0:Int) < wrap64 0) = false:=by rw [hw0];rfl
  have hw2:decide ((0:Int) < 0) = false:=by decide
  go_wp2_with fail
  clear hw0 hw1 hw2
  go_roundg (l.length - (i + 1))
  case measure=>omega
  case rel=>exact ⟨i + 1,by omega,Nat.le_refl _,by first | rfl | go_num,HB⟩
 ·obtain rfl:i = l.length:=by omega
  have hz1:decide (l.length < l.length) = false:=by simp
  have hz2:decide ((l.length:Int) < (l.length:Int)) = false:=by simp
  clear hlt
  go_wp2
  go_ret
  exact ⟨rfl,HB.out⟩
end Go.Proofs.YtdadnapfecmmdaaGreat.P
namespace Go.Proofs.YtdadnapfecmmdaaGreat.P
set_option linter.unusedVariables false
set_option linter.unusedSimpArgs false
open Go.RowKit Go.Proofs.YtdadnapfecmmdaaGreatW.PrintWords Go.Proofs.YtdadnapfecmmdaaGreatW.PrintLast Go.Proofs.YtdadnapfecmmdaaGreatW.PrintMore
structure Sl where
 A:Option Addr
 n:Nat
 c:Nat
def Sl.val (s:Sl):Value:=.slice s.A s.n s.c
def kSl:Kd Sl:=Kd.scalar Sl.val (fun _=>rfl)
structure S81 where
 ag:Int
 sq:Int
 sp:Sl
 ex:Sl
def z81:S81:=⟨0,0,⟨none,0,0⟩,⟨none,0,0⟩⟩
def S81.cells (x:S81):List Value:=[.int .i64 x.ag,.int .i64 x.sq,.slice x.sp.A x.sp.n x.sp.c,.slice x.ex.A x.ex.n x.ex.c]
def k81:Kd S81:=Kd.iso (Kd.pair (Kd.int .i64) (Kd.pair (Kd.int .i64) (Kd.pair kSl kSl))) (fun x:S81=>(x.ag,x.sq,x.sp,x.ex))
theorem k81_open {w:World} {x:S81} {cs:List Value} (h:k81.K w x cs):cs = x.cells:=by
 obtain ⟨_,_,rfl,rfl,⟨_,_,rfl,rfl,⟨_,_,rfl,rfl,rfl⟩⟩⟩:=h
 exact rfl
theorem k81_mk (w:World) (x:S81):k81.K w x x.cells:=⟨[.int .i64 x.ag],[.int .i64 x.sq,x.sp.val,x.ex.val],rfl,rfl,⟨[.int .i64 x.sq],[x.sp.val,x.ex.val],rfl,rfl,⟨[x.sp.val],[x.ex.val],rfl,rfl,rfl⟩⟩⟩
theorem k81_mkM (w:World) (base:Nat) (ok:Nat→Prop) (x:S81):k81.M w base ok x x.cells:=⟨[.int .i64 x.ag],[.int .i64 x.sq,x.sp.val,x.ex.val],rfl,rfl,⟨[.int .i64 x.sq],[x.sp.val,x.ex.val],rfl,rfl,⟨[x.sp.val],[x.ex.val],rfl,rfl,rfl⟩⟩⟩
structure S96 where
 key:Int
 idx:Int
 cpy:Int
 f:S81
def z96:S96:=⟨0,0,0,z81⟩
def S96.cells (x:S96):List Value:=[.int .i64 x.key,.int .i64 x.idx,.int .i64 x.cpy,.int .i64 x.f.ag,.int .i64 x.f.sq,.slice x.f.sp.A x.f.sp.n x.f.sp.c,.slice x.f.ex.A x.f.ex.n x.f.ex.c]
def k96:Kd S96:=Kd.iso (Kd.pair (Kd.int .i64) (Kd.pair (Kd.int .i64) (Kd.pair (Kd.int .i64) k81))) (fun x:S96=>(x.key,x.idx,x.cpy,x.f))
theorem k96_open {w:World} {x:S96} {cs:List Value} (h:k96.K w x cs):cs = x.cells:=by
 obtain ⟨_,_,rfl,rfl,⟨_,_,rfl,rfl,⟨_,_,rfl,rfl,h⟩⟩⟩:=h
 obtain rfl:=k81_open h
 exact rfl
theorem k96_mk (w:World) (x:S96):k96.K w x x.cells:=⟨[.int .i64 x.key],[.int .i64 x.idx,.int .i64 x.cpy] ++ x.f.cells,rfl,rfl,⟨[.int .i64 x.idx],[.int .i64 x.cpy] ++ x.f.cells,rfl,rfl,⟨[.int .i64 x.cpy],x.f.cells,rfl,rfl,k81_mk w x.f⟩⟩⟩
theorem k96_mkM (w:World) (base:Nat) (ok:Nat→Prop) (x:S96):k96.M w base ok x x.cells:=⟨[.int .i64 x.key],[.int .i64 x.idx,.int .i64 x.cpy] ++ x.f.cells,rfl,rfl,⟨[.int .i64 x.idx],[.int .i64 x.cpy] ++ x.f.cells,rfl,rfl,⟨[.int .i64 x.cpy],x.f.cells,rfl,rfl,k81_mkM w base ok x.f⟩⟩⟩
theorem k96_KM {w:World} {base:Nat} {ok:Nat→Prop} {x:S96} {cs:List Value} (h:k96.K w x cs):k96.M w base ok x cs:=by
 obtain rfl:=k96_open h
 exact k96_mkM w base ok x
theorem info96:(Tryz.prog.info? 96).map (fun i=>(i.zero,i.size,i.bytes)) = some (some (.agg #[(.int .i64 0),(.int .i64 0),(.int .i64 0),(.int .i64 0),(.int .i64 0),(.slice none 0 0),(.slice none 0 0)]),7,88):=by kernel_rfl
theorem Kd.R_other96 {w w1:World} {base:Nat} {v u:Value} {xs:List S96} (h:Kd.R k96 96 w base (fun _=>True) v xs) (hg:w.grownBy w1 u.ownBlock) (hn:∀ k,some k = v.ownBlock→some k ≠ u.ownBlock):Kd.R k96 96 w1 base (fun _=>True) v xs:=by
 obtain ⟨h0,inner,ho,hr⟩:=h
 refine ⟨fun _ _=>trivial,inner,own_move ho (fun k hk=>hg.block k (own_lt ho k hk) (hn k hk.symm)),hr.imp_ (fun p c hp=>?_)⟩
 exact k96_KM (k96.K_of_M hp |> fun h=>by obtain rfl:=k96_open h;exact k96_mk w1 p)
def rd96 (xs:List S96) (i:Int):S96:=xs.getD i.toNat z96
def rd81 (xs:List S81) (i:Int):S81:=xs.getD i.toNat z81
theorem cells96 {w:World} {A:Option Addr} {n:Nat} {xs:List S96} (h:Kd.C k96 w A n xs) (i:Nat) (hi:i < n):∃ ad,A = some ad∧w.cell? (ad.add (i * 7)) = some (.int .i64 (rd96 xs i).key)∧w.cell? ⟨(ad.add (i * 7)).block,(ad.add (i * 7)).off + 1,none⟩ = some (.int .i64 (rd96 xs i).idx)∧w.cell? ⟨(ad.add (i * 7)).block,(ad.add (i * 7)).off + 2,none⟩ = some (.int .i64 (rd96 xs i).cpy)∧
  w.cell? ⟨(ad.add (i * 7)).block,(ad.add (i * 7)).off + 3,none⟩ = some (.int .i64 (rd96 xs i).f.ag)∧w.cell? ⟨(ad.add (i * 7)).block,(ad.add (i * 7)).off + 4,none⟩ = some (.int .i64 (rd96 xs i).f.sq)∧w.cell? ⟨(ad.add (i * 7)).block,(ad.add (i * 7)).off + 5,none⟩ = some (.slice (rd96 xs i).f.sp.A (rd96 xs i).f.sp.n (rd96 xs i).f.sp.c)∧w.cell? ⟨(ad.add (i * 7)).block,(ad.add (i * 7)).off + 6,none⟩ = some (.slice (rd96 xs i).f.ex.A (rd96 xs i).f.ex.n (rd96 xs i).f.ex.c):=by
 obtain ⟨ad,c,e,_,hK,hc0⟩:=Kd.C_get h z96 (i:Int) (by omega) (by omega)
 have hc:∀ j u,c[j]? = some u→w.cell? (ad.add (i * 7 + j)) = some u:=hc0
 obtain rfl:=k96_open hK
 exact ⟨ad,e,hc 0 _ rfl,by rw [← add_field _ _ 1 (by omega)];exact hc 1 _ rfl,by rw [← add_field _ _ 2 (by omega)];exact hc 2 _ rfl,by rw [← add_field _ _ 3 (by omega)];exact hc 3 _ rfl,by rw [← add_field _ _ 4 (by omega)];exact hc 4 _ rfl,by rw [← add_field _ _ 5 (by omega)];exact hc 5 _ rfl,by rw [← add_field _ _ 6 (by omega)];exact hc 6 _ rfl⟩
theorem cells81 {w:World} {A:Option Addr} {n:Nat} {xs:List S81} (h:Kd.C k81 w A n xs) (i:Nat) (hi:i < n):∃ ad,A = some ad∧w.cell? (ad.add (i * 4)) = some (.int .i64 (rd81 xs i).ag)∧w.cell? ⟨(ad.add (i * 4)).block,(ad.add (i * 4)).off + 1,none⟩ = some (.int .i64 (rd81 xs i).sq)∧w.cell? ⟨(ad.add (i * 4)).block,(ad.add (i * 4)).off + 2,none⟩ = some (.slice (rd81 xs i).sp.A (rd81 xs i).sp.n (rd81 xs i).sp.c)∧w.cell? ⟨(ad.add (i * 4)).block,(ad.add (i * 4)).off + 3,none⟩ = some (.slice (rd81 xs i).ex.A (rd81 xs i).ex.n (rd81 xs i).ex.c):=by
 obtain ⟨ad,c,e,_,hK,hc0⟩:=Kd.C_get h z81 (i:Int) (by omega) (by omega)
 have hc:∀ j u,c[j]? = some u→w.cell? (ad.add (i * 4 + j)) = some u:=hc0
 obtain rfl:=k81_open hK
 exact ⟨ad,e,hc 0 _ rfl,by rw [← add_field _ _ 1 (by omega)];exact hc 1 _ rfl,by rw [← add_field _ _ 2 (by omega)];exact hc 2 _ rfl,by rw [← add_field _ _ 3 (by omega)];exact hc 3 _ rfl⟩
def FrOk (w:World) (f:Fr) (y:S81):Prop:=y.ag = f.agent∧y.sq = f.seq∧y.sp.n = f.l.length∧y.ex.n = 0∧Kd.C k74 w y.sp.A f.l.length (f.l.map toS)
theorem FrOk.below {w w1:World} {f:Fr} {y:S81} (h:FrOk w f y) (hb:Below w.heap.size w w1):FrOk w1 f y:=⟨h.1,h.2.1,h.2.2.1,h.2.2.2.1,Kd.C_below h.2.2.2.2 hb⟩
theorem FrRd.of {w:World} {A:Option Addr} {ys:List S81} {fs:List Fr} (h:Kd.C k81 w A ys.length ys) (hl:ys.length = fs.length) (ho:∀ i (h1:i < fs.length) (h2:i < ys.length),FrOk w fs[i] ys[i]):FrRd w A fs:=by
 refine ⟨by rw [← hl];exact h.2.1,fun i hi=>?_⟩
 obtain ⟨ad,e,c0,c1,c2,c3⟩:=cells81 h i (by omega)
 have hr:rd81 ys (i:Int) = ys[i]'(by omega):=by unfold rd81;simp [List.getD_eq_getElem?_getD,show i < ys.length by omega]
 rw [hr] at c0 c1 c2 c3
 obtain ⟨h1,h2,h3,h4,h5⟩:=ho i hi (by omega)
 rw [h1] at c0
 rw [h2] at c1
 rw [h3] at c2
 rw [h4] at c3
 exact ⟨ad,_,_,_,_,e,c0,c1,c2,c3,h5⟩
theorem FrRd.rows {w:World} {A:Option Addr} {fs:List Fr} (h:FrRd w A fs):∃ ys:List S81,ys.length = fs.length∧Kd.C k81 w A ys.length ys∧∀ i (h1:i < fs.length) (h2:i < ys.length),FrOk w fs[i] ys[i]:=by
 have hx:∀ i:Fin fs.length,∃ y:S81,FrOk w fs[i] y∧∃ ad,A = some ad∧∀ j u,y.cells[j]? = some u→w.cell? (ad.add (i * 4 + j)) = some u:=by
  rintro ⟨i,hi⟩
  obtain ⟨ad,A2,c2,A3,c3,e,a0,a1,a2,a3,hk⟩:=h.2 i hi
  refine ⟨⟨fs[i].agent,fs[i].seq,⟨A2,fs[i].l.length,c2⟩,⟨A3,0,c3⟩⟩,⟨rfl,rfl,rfl,rfl,hk⟩,ad,e,fun j u hu=>?_⟩
  match j,hu with
  | 0,hu=>injection hu with hu;subst hu;exact a0
  | 1,hu=>injection hu with hu;subst hu;rw [add_field _ _ 1 (by omega)];exact a1
  | 2,hu=>injection hu with hu;subst hu;rw [add_field _ _ 2 (by omega)];exact a2
  | 3,hu=>injection hu with hu;subst hu;rw [add_field _ _ 3 (by omega)];exact a3
  | j + 4,hu=>simp [S81.cells] at hu
 obtain ⟨f,hf⟩:=Classical.axiomOfChoice hx
 refine ⟨List.ofFn f,by simp,⟨rfl,by rw [List.length_ofFn];exact h.1,fun hp=>?_⟩,fun i h1 h2=>?_⟩
 ·rw [List.length_ofFn] at hp
  obtain ⟨_,ad,e,_⟩:=hf ⟨0,hp⟩
  refine ⟨ad,e,fun j p hj=>?_⟩
  obtain ⟨hjl,rfl⟩:=List.getElem?_eq_some_iff.mp hj
  rw [List.length_ofFn] at hjl
  obtain ⟨_,ad2,e2,hc⟩:=hf ⟨j,hjl⟩
  rw [e] at e2
  injection e2 with e2
  subst e2
  rw [List.getElem_ofFn]
  exact ⟨_,rfl,k81_mk w _,hc⟩
 ·have:=(hf ⟨i,h1⟩).1
  rw [List.getElem_ofFn]
  exact this
end Go.Proofs.YtdadnapfecmmdaaGreat.P
namespace Go.Proofs.YtdadnapfecmmdaaGreat.P
set_option linter.unusedVariables false
set_option linter.unusedSimpArgs false
open Go.RowKit
def mkA (ys:List S81) (a:Ar):S96:=⟨a.key,a.idx,a.cpy,rd81 ys a.idx⟩
theorem rd96_map (ys:List S81) (l:List Ar) (j:Nat) (h:j < l.length):rd96 (l.map (mkA ys)) (j:Int) = mkA ys l[j]:=by
 unfold rd96
 simp [List.getD_eq_getElem?_getD,h]
theorem arAt_stop (x:Ar) (l:List Ar) (k:Nat) (h:k < l.length) (hx:l[k].le x = true):arAt x l (k + 1) = k + 1:=by
 simp only [arAt]
 rw [List.getElem?_eq_getElem h]
 simp only
 rw [if_pos hx]
theorem arAt_go (x:Ar) (l:List Ar) (k:Nat) (h:k < l.length) (hx:l[k].le x = false):arAt x l (k + 1) = arAt x l k:=by
 simp only [arAt]
 rw [List.getElem?_eq_getElem h]
 simp only
 rw [if_neg (by rw [hx];decide)]
theorem arSort_app (l m:List Ar):∀ acc,arSort (l ++ m) acc = arSort m (arSort l acc):=by
 induction l with
 | nil=>intro acc;rfl
 | cons x r ih=>intro acc;exact ih _
theorem arIns_len (x:Ar) (l:List Ar):(arIns x l).length = l.length + 1:=(arIns_perm x l).length_eq
def arLost (seed loss:Int) (i:Nat):Bool:=decide (rollV seed (i:Int) 0 5 % 1000000 < loss)
def arTwice (seed rep:Int) (i:Nat):Bool:=decide (rollV seed (i:Int) 0 6 % 1000000 < rep)
def arOne (seed:Int) (i n:Nat):Ar:=⟨rollV seed (i:Int) (n:Int) 7,(i:Int),(n:Int)⟩
def arr1 (seed loss rep:Int) (i:Nat):List Ar:=if arLost seed loss i = true then [] else (List.range (if arTwice seed rep i = true then 2 else 1)).map (arOne seed i)
def arrsTo (seed loss rep:Int):Nat→List Ar
 | 0=>[]
 | n + 1=>arrsTo seed loss rep n ++ arr1 seed loss rep n
theorem arr1_len (seed loss rep:Int) (i:Nat):(arr1 seed loss rep i).length ≤ 2:=by
 unfold arr1
 split
 ·simp
 ·rw [List.length_map,List.length_range]
  split <;> omega
theorem arr1_mem (seed loss rep:Int) (i:Nat) (a:Ar) (h:a ∈ arr1 seed loss rep i):a.idx = (i:Int):=by
 unfold arr1 at h
 split at h
 ·cases h
 ·obtain ⟨n,_,rfl⟩:=List.mem_map.mp h
  rfl
theorem arrsTo_len (seed loss rep:Int) (n:Nat):(arrsTo seed loss rep n).length ≤ 2 * n:=by
 induction n with
 | zero=>simp [arrsTo]
 | succ n ih=>
  have:=arr1_len seed loss rep n
  simp only [arrsTo,List.length_append]
  omega
theorem arrsTo_mem (seed loss rep:Int) (n:Nat) (a:Ar) (h:a ∈ arrsTo seed loss rep n):∃ i:Nat,i < n∧a.idx = (i:Int):=by
 induction n with
 | zero=>simp [arrsTo] at h
 | succ n ih=>
  simp only [arrsTo] at h
  rcases List.mem_append.mp h with h | h
  ·obtain ⟨i,h1,h2⟩:=ih h
   exact ⟨i,by omega,h2⟩
  ·exact ⟨n,by omega,arr1_mem seed loss rep n a h⟩
def arL (seed loss rep:Int) (n:Nat):List Ar:=arSort (arrsTo seed loss rep n) []
theorem arL_succ (seed loss rep:Int) (n:Nat):arL seed loss rep (n + 1) = arSort (arr1 seed loss rep n) (arL seed loss rep n):=arSort_app _ _ _
theorem arL_len (seed loss rep:Int) (n:Nat):(arL seed loss rep n).length ≤ 2 * n:=by
 have h:=(arSort_perm (arrsTo seed loss rep n) []).length_eq
 rw [List.append_nil] at h
 have:=arrsTo_len seed loss rep n
 unfold arL
 omega
theorem arL_mem (seed loss rep:Int) (n:Nat) (a:Ar) (h:a ∈ arL seed loss rep n):∃ i:Nat,i < n∧a.idx = (i:Int):=by
 have h2:=(arSort_perm (arrsTo seed loss rep n) []).mem_iff.mp h
 rw [List.append_nil] at h2
 exact arrsTo_mem seed loss rep n a h2
theorem arL_lost (seed loss rep:Int) (n:Nat) (h:arLost seed loss n = true):arL seed loss rep (n + 1) = arL seed loss rep n:=by
 rw [arL_succ];unfold arr1;rw [if_pos h];rfl
def zFr:Fr:=⟨0,0,[]⟩
def arrive (fs:List Fr) (l:List Ar):List Fr:=l.map fun a=>fs.getD a.idx.toNat zFr
theorem arrive_rows {w:World} {fs:List Fr} {ys:List S81} (hl:ys.length = fs.length) (h:∀ i (h1:i < fs.length) (h2:i < ys.length),FrOk w fs[i] ys[i]) (l:List Ar) (hm:∀ a ∈ l,∃ i:Nat,i < fs.length∧a.idx = (i:Int)):∀ j (h1:j < (arrive fs l).length) (h2:j < (l.map fun a=>rd81 ys a.idx).length),FrOk w (arrive fs l)[j] (l.map fun a=>rd81 ys a.idx)[j]:=by
 intro j h1 h2
 unfold arrive at *
 rw [List.length_map] at h1
 obtain ⟨i,hi,he⟩:=hm l[j] (List.getElem_mem h1)
 have:=h i hi (by omega)
 simp only [List.getElem_map,he,rd81,Int.toNat_natCast]
 simpa [List.getD_eq_getElem?_getD,hi,show i < ys.length by omega] using this
end Go.Proofs.YtdadnapfecmmdaaGreat.P
