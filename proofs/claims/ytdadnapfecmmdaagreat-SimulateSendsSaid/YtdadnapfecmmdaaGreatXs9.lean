/- Own texts of a proof about layer 55's simulate (merged): Hx, Hy, PF23, Hz. -/
import Derived.Test.YtdadnapfecmmdaaGreatXs2
import Derived.Test.YtdadnapfecmmdaaGreatXs7
import Derived.Test.YtdadnapfecmmdaaGreatXs8
namespace Go.Proofs.YtdadnapfecmmdaaGreat.P
set_option linter.unusedVariables false
set_option linter.unusedSimpArgs false
open Go.RowKit Go.Proofs.YtdadnapfecmmdaaGreatW.PrintWords Go.Proofs.YtdadnapfecmmdaaGreatW.PrintLast Go.Proofs.YtdadnapfecmmdaaGreatW.PrintMore
open Go.Proofs.YtdadnapfecmmdaaGreat.Hm
structure Tr where
 id:Int
 l:List Sp
def trc:List (Tr × Value)→List Value
 | []=>[]
 | x::r=>[.int .i64 x.1.id,.int .i64 1,x.2] ++ trc r
theorem trc_snoc (l:List (Tr × Value)) (x:Tr × Value):trc (l ++ [x]) = trc l ++ [.int .i64 x.1.id,.int .i64 1,x.2]:=by
 induction l with
 | nil=>rfl
 | cons a r ih=>simp [trc,ih]
def TsR (W:World) (base:Nat) (xs:List (Tr × Value)):Prop:=∀ x ∈ xs,W.ownsRow base 74 14 x.2 x.1.l.length (spc x.1.l)
def trK (tv:Int→Option (List Sp)) (f:Sp→Sp):Nat→Int→List Tr→Option (List Tr)
 | 0,_,acc=>some acc
 | j + 1,k,acc=>if acc.length < 100000 then (tv k).bind fun l=>match l with
  | []=>none
  | s::r=>trK tv f j (k + 1) (acc ++ [⟨s.tr,(s::r).map f⟩])
  else none
def trS (n:Nat) (c:Cfg) (f:Sp→Sp):Nat→Int→List Tr→Option (List Tr)
 | 0,_,acc=>some acc
 | j + 1,s,acc=>(trK (traceV n c s) f c.per.toNat 0 acc).bind fun a=>trS n c f j (s + 1) a
def tracesV (n:Nat) (c:Cfg) (f:Sp→Sp):Option (List Tr):=if 0 ≤ c.sfrom∧c.sto ≤ 1048576∧c.per ≤ 1048576 then trS n c f (c.sto - c.sfrom).toNat c.sfrom [] else none
theorem own_base {W:World} {b b':Nat} {e:TypeId} {sz n:Nat} {v:Value} {xs:List Value} (h:W.ownsRow b e sz v n xs) (hb:b' ≤ b):W.ownsRow b' e sz v n xs:=by
 refine ⟨h.1,?_⟩
 rcases h.2 with h | ⟨g,cap,cur,h1,h2,h3⟩
 ·exact .inl h
 ·exact .inr ⟨g,cap,cur,h1,Nat.le_trans hb h2,h3⟩
theorem TsR.below {W W':World} {base:Nat} {xs:List (Tr × Value)} (h:TsR W base xs) (hb:Below W.heap.size W W'):TsR W' base xs:=fun x hx=>pw_own_below (h x hx) hb
theorem own_keep {W W':World} {b:Nat} {e:TypeId} {sz n:Nat} {v:Value} {xs:List Value} (h:W.ownsRow b e sz v n xs) (hk:∀ (g:Nat) (cur:Array Value),W.heap[g]? = some (Obj.cells cur e (0,0))→W'.heap[g]? = W.heap[g]?):W'.ownsRow b e sz v n xs:=by
 refine ⟨h.1,?_⟩
 rcases h.2 with h | ⟨g,cap,cur,h1,h2,h3,h4⟩
 ·exact .inl h
 ·exact .inr ⟨g,cap,cur,h1,h2,(hk g cur h3).trans h3,h4⟩
theorem own_some {W:World} {b:Nat} {e:TypeId} {sz n:Nat} {v:Value} {xs:List Value} (h:W.ownsRow b e sz v n xs) (hn:0 < n):∃ (r cp:Nat) (cur:Array Value),v = .slice (some ⟨r,0,none⟩) n cp∧W.heap[r]? = some (Obj.cells cur e (0,0))∧b ≤ r:=by
 rcases h.2 with ⟨_,h⟩ | ⟨g,cap,cur,h1,h2,h3,h4⟩
 ·omega
 ·exact ⟨g,cap,cur,h1,h3,h2⟩
def TsOut (base:Nat) (w':World) (ts:List Tr) (v:Value):Prop:=∃ xs:List (Tr × Value),xs.map (·.1) = ts∧w'.ownsRow base 70 3 v xs.length (trc xs)∧TsR w' base xs
def mid (f:Sp→Sp) (l:List Sp) (i:Nat):List Sp:=(l.take i).map f ++ l.drop i
theorem mid_len (f:Sp→Sp) (l:List Sp) (i:Nat):(mid f l i).length = l.length:=by
 unfold mid
 rw [List.length_append,List.length_map,List.length_take,List.length_drop]
 omega
theorem mid_get? (f:Sp→Sp) (l:List Sp) (i:Nat) (hi:i < l.length):(mid f l i)[i]? = some l[i]:=by
 unfold mid
 rw [List.getElem?_append_right (by simp;omega)]
 simp only [List.length_map,List.length_take,List.getElem?_drop]
 rw [show i + (i - min i l.length) = i from by omega,List.getElem?_eq_getElem hi]
theorem mid_get (f:Sp→Sp) (l:List Sp) (i:Nat) (hi:i < l.length) (h:i < (mid f l i).length):(mid f l i)[i] = l[i]:=by
 have h1:=mid_get? f l i hi
 rw [List.getElem?_eq_getElem h] at h1
 exact Option.some.inj h1
theorem mid_set (f:Sp→Sp) (l:List Sp) (i:Nat) (hi:i < l.length):(mid f l i).set i (f l[i]) = mid f l (i + 1):=by
 unfold mid
 rw [List.set_append_right _ _ (by simp;omega)]
 rw [List.take_succ_eq_append_getElem hi,List.drop_eq_getElem_cons hi]
 simp only [List.length_map,List.length_take,List.map_append,List.map_cons,List.map_nil,List.append_assoc,List.cons_append,List.nil_append]
 rw [show i - min i l.length = 0 from by omega]
 rfl
theorem mid_end (f:Sp→Sp) (l:List Sp):mid f l l.length = l.map f:=by simp [mid]
theorem mid_zero (f:Sp→Sp) (l:List Sp):mid f l 0 = l:=by simp [mid]
set_option maxHeartbeats 8000000 in
set_option maxRecDepth 100000 in
theorem traces_calls (n k:Nat) (c:Cfg) (p:CfgAt) (w:World) (fid:Nat) (caps:Array Value) (f:Sp→Sp) (ts:List Tr) (hR:CfgR w p c) (hsh:Shows fid caps f w.heap.size w (fun W=>Below w.heap.size w W)) (hck:ckAll k c = some 0) (h:tracesV n c f = some ts):
  Calls Tryz.prog 30 #[c.val p,.func (.func fid) #[] caps] w fun e w'=>∃ v,e = .returned (.tuple #[v,.int .i64 0])∧TsOut w.heap.size w' ts v∧Below w.heap.size w w':=by
 unfold tracesV at h
 by_cases hg:0 ≤ c.sfrom∧c.sto ≤ 1048576∧c.per ≤ 1048576
 case neg=>rw [if_neg hg] at h;cases h
 rw [if_pos hg] at h
 obtain ⟨hg0,hg1,hg2⟩:=hg
 have HR:=Aside0.mk hR
 have HA:=Aside0.mk h
 have HCK:=Aside0.mk hck
 have eg:=hsh.1
 have HSH:=Aside0.mk hsh.2
 clear hR h hck hsh
 obtain ⟨A1,c1,A2,c2,A3,c3,A4,c4⟩:=p
 go_enter Tryz.func30,Tryz.ntmps30
 go_wp2_with fail
 refine (check_calls k c ⟨A1,c1,A2,c2,A3,c3,A4,c4⟩ 0 _ (HR.out.below (below_alloc (Below.refl _ _) _)) HCK.out).mono ?_
 rintro e w1 ⟨rfl,hb1⟩
 have HB:=Aside0.mk (below_step (below_alloc (Below.refl w.heap.size w) _) hb1)
 have HX:=Aside0.mk (blk_below (blk_new w (.cells (c.cells ⟨A1,c1,A2,c2,A3,c3,A4,c4⟩) 36)) hb1)
 clear hb1 HCK
 have q5:w1.cell? ⟨w.heap.size,5,none⟩ = some (.int .i64 c.sfrom):=(blk_cell HX.out 5).trans rfl
 go_wp2_with fail
 clear q5
 go_loopg [7,8] (c.sto - c.sfrom).toNat (fun gg s7 s8 wr=>∃ (j:Nat) (s:Int) (acc:List Tr) (xs:List (Tr × Value)) (cp:Nat) (A:Option Addr),s7 = .slice A xs.length cp∧s8 = .int .i64 s∧j ≤ gg∧Aside0 (j = (c.sto - s).toNat)∧c.sfrom ≤ s∧Aside0 (trS n c f j s acc = some ts)∧Aside0 (xs.map (·.1) = acc)∧Aside0 (wr.ownsRow w.heap.size 70 3 (.slice A xs.length cp) xs.length (trc xs))∧Aside0 (TsR wr w.heap.size xs)∧Aside0 (Below w.heap.size w wr)∧Aside0 (wr.heap[w.heap.size]? = some (.cells (c.cells ⟨A1,c1,A2,c2,A3,c3,A4,c4⟩) 36 (0,0))))
 case atStart=>exact ⟨(c.sto - c.sfrom).toNat,c.sfrom,[],[],0,none,by rfl,by rfl,by omega,⟨rfl⟩,by omega,HA,⟨rfl⟩,⟨rfl,.inl ⟨rfl,rfl⟩⟩,⟨fun _ h=>by cases h⟩,HB,HX⟩
 case round=>
  clear HA HB HX
  obtain ⟨j,s,acc,xs,cp,A,rfl,rfl,hj,HJ,hs0,HA,HM,HO,HT,HB,HX⟩:=hrel
  have q5:wr.cell? ⟨w.heap.size,6,none⟩ = some (.int .i64 c.sto):=(blk_cell HX.out 6).trans rfl
  have q6:wr.cell? ⟨w.heap.size,7,none⟩ = some (.int .i64 c.per):=(blk_cell HX.out 7).trans rfl
  cases j with
  | zero=>
   have hjj:=HJ.out
   have hx:¬ s < c.sto:=by omega
   have g0:decide (s < c.sto) = false:=by simpa using hx
   have hA:=HA.out
   rw [trS] at hA
   obtain rfl:=Option.some.inj hA
   clear hA HA hjj HJ
   go_wp2_with fail
   refine bodyPost_ret (results_tmp2 rfl _ _ _) rfl ?_
   exact ⟨_,by rfl,⟨xs,HM.out,HO.out,HT.out⟩,HB.out⟩
  | succ j=>
   have hjj:=HJ.out
   have hx:s < c.sto:=by omega
   have g0:decide (s < c.sto) = true:=by simpa using hx
   have hA:=HA.out
   rw [trS] at hA
   obtain ⟨a1,hK,hA⟩:=Option.bind_eq_some_iff.mp hA
   have HA:=Aside0.mk hA
   have HK:=Aside0.mk hK
   have s1:IntKind.i64.wrap (s + 1) = s + 1:=IntWalk.i64_in _ (by omega)
   have HJ1:=Aside0.mk (show j = (c.sto - (s + 1)).toNat from by omega)
   clear hA hK hjj HJ
   go_wp2_with fail
   obtain ⟨wq,rfl⟩:∃ wq:World,wq = wr:=⟨_,rfl⟩
   go_loopg [7,29] c.per.toNat (fun gg s7 s29 wr=>∃ (i:Nat) (kk:Int) (acc:List Tr) (xs:List (Tr × Value)) (cp:Nat) (A:Option Addr),s7 = .slice A xs.length cp∧s29 = .int .i64 kk∧i ≤ gg∧Aside0 (i = (c.per - kk).toNat)∧0 ≤ kk∧Aside0 (trK (traceV n c s) f i kk acc = some a1)∧Aside0 (xs.map (·.1) = acc)∧Aside0 (wr.ownsRow w.heap.size 70 3 (.slice A xs.length cp) xs.length (trc xs))∧Aside0 (TsR wr w.heap.size xs)∧Aside0 (Below w.heap.size w wr)∧Aside0 (wr.heap[w.heap.size]? = some (.cells (c.cells ⟨A1,c1,A2,c2,A3,c3,A4,c4⟩) 36 (0,0))))
   case atStart=>exact ⟨c.per.toNat,0,acc,xs,cp,A,by rfl,by rfl,by omega,⟨by omega⟩,by omega,HK,HM,HO,HT,HB,HX⟩
   case round=>
    clear HK HM HO HT HB HX q5 q6 g0
    obtain ⟨i,kk,acc,xs,cp,A,rfl,rfl,hi,HI,hk0,HK,HM,HO,HT,HB,HX⟩:=hrel
    cases i with
    | zero=>
     have hii:=HI.out
     have hx2:¬ kk < c.per:=by omega
     have g0:decide (kk < c.per) = false:=by simpa using hx2
     have hK:=HK.out
     rw [trK] at hK
     obtain rfl:=Option.some.inj hK
     clear hK HK hii HI
     go_wp2_with fail
     go_roundg j
     case measure=>omega
     case rel=>exact ⟨j,s + 1,acc,xs,cp,A,by rfl,by go_num,Nat.le_refl _,HJ1,by omega,HA,HM,HO,HT,HB,HX⟩
    | succ i=>
     have hii:=HI.out
     have hx2:kk < c.per:=by omega
     have g0:decide (kk < c.per) = true:=by simpa using hx2
     have hK:=HK.out
     rw [trK] at hK
     by_cases hacc:acc.length < 100000
     case neg=>rw [if_neg hacc] at hK;cases hK
     rw [if_pos hacc] at hK
     obtain ⟨l,hl,hK⟩:=Option.bind_eq_some_iff.mp hK
     obtain ⟨sp0,sps,rfl⟩:∃ a b,l = a::b:=by
      cases l with
      | nil=>cases hK
      | cons a b=>exact ⟨a,b,rfl⟩
     have HK':=Aside0.mk hK
     have HL:=Aside0.mk hl
     have HI1:=Aside0.mk (show i = (c.per - (kk + 1)).toNat from by omega)
     have s2:IntKind.i64.wrap (kk + 1) = kk + 1:=IntWalk.i64_in _ (by omega)
     clear hK hl HK hii HI
     have p0:wr.cell? ⟨w.heap.size,0,none⟩ = some (.int .i64 c.seed):=(blk_cell HX.out 0).trans rfl
     have p1:wr.cell? ⟨w.heap.size,1,none⟩ = some (.slice A1 c.sv.length c1):=(blk_cell HX.out 1).trans rfl
     have p2:wr.cell? ⟨w.heap.size,2,none⟩ = some (.slice A2 c.off.length c2):=(blk_cell HX.out 2).trans rfl
     have p3:wr.cell? ⟨w.heap.size,3,none⟩ = some (.slice A3 c.ch.length c3):=(blk_cell HX.out 3).trans rfl
     have p4:wr.cell? ⟨w.heap.size,4,none⟩ = some (.slice A4 c.fl.length c4):=(blk_cell HX.out 4).trans rfl
     have p5:wr.cell? ⟨w.heap.size,5,none⟩ = some (.int .i64 c.sfrom):=(blk_cell HX.out 5).trans rfl
     have p6:wr.cell? ⟨w.heap.size,6,none⟩ = some (.int .i64 c.sto):=(blk_cell HX.out 6).trans rfl
     have p7:wr.cell? ⟨w.heap.size,7,none⟩ = some (.int .i64 c.per):=(blk_cell HX.out 7).trans rfl
     have p8:wr.cell? ⟨w.heap.size,8,none⟩ = some (.int .i64 c.delay):=(blk_cell HX.out 8).trans rfl
     have p9:wr.cell? ⟨w.heap.size,9,none⟩ = some (.int .i64 c.chunk):=(blk_cell HX.out 9).trans rfl
     have p10:wr.cell? ⟨w.heap.size,10,none⟩ = some (.int .i64 c.loss):=(blk_cell HX.out 10).trans rfl
     have p11:wr.cell? ⟨w.heap.size,11,none⟩ = some (.int .i64 c.rep):=(blk_cell HX.out 11).trans rfl
     go_wp2_with fail
     refine (trace_calls n c ⟨A1,c1,A2,c2,A3,c3,A4,c4⟩ s kk wr (sp0::sps) (HR.out.below HB.out) HL.out).mono ?_
     rintro e w3 ⟨v0,rfl,ho0,hb0⟩
     obtain ⟨r,cp0,cur,rfl,hr,hbr⟩:=own_some ho0 (by simp)
     have HO0:=Aside0.mk ho0
     have HR0:=Aside0.mk hr
     have HB0:=Aside0.mk hb0
     have hw3:=hb0.size
     obtain ⟨e0,_,_,hr3⟩:=own_cell56 HO0.out 0 0 (by simp) (by omega)
     replace e0:w3.cell? ⟨r,0,none⟩ = some (.int .i64 sp0.tr):=by simpa [Sp.cells] using e0
     clear ho0 hr hb0 p0 p1 p2 p3 p4 p5 p6 p7 p8 p9 p10 p11 HL
     have n1:r ≠ w3.heap.size:=by omega
     have hlen:(sp0::sps).length = sps.length + 1:=rfl
     go_wp2_with fail
     obtain ⟨wt,rfl⟩:∃ wt:World,wt = wr:=⟨_,rfl⟩
     have hbw:Below wt.heap.size wt (w3.alloc (.cells #[.int .i64 sp0.tr,.int .i64 1,.slice (some ⟨r,0,none⟩) (sps.length + 1) cp0] 70)):=below_alloc HB0.out _
     have HB4:=Aside0.mk hbw
     have HO4:Aside0 ((w3.alloc (.cells #[.int .i64 sp0.tr,.int .i64 1,.slice (some ⟨r,0,none⟩) (sps.length + 1) cp0] 70)).ownsRow wt.heap.size 74 14 (.slice (some ⟨r,0,none⟩) (sps.length + 1) cp0) (sps.length + 1) (spc (mid f (sp0::sps) 0))):=⟨by rw [mid_zero];exact pw_own_below HO0.out (below_alloc (Below.refl _ _) _)⟩
     have HV4:=Aside0.mk (blk_new w3 (.cells #[.int .i64 sp0.tr,.int .i64 1,.slice (some ⟨r,0,none⟩) (sps.length + 1) cp0] 70))
     have hbig:sps.length + 1 ≤ 9223372036854775807:=by
      rcases HO0.out.2 with ⟨_,h⟩ | ⟨_,cap,_,_,_,_,h1,h2,_⟩
      ·simp at h
      ·have h3:(sp0::sps).length = sps.length + 1:=rfl
       have h4:maxLen ≤ 9223372036854775807:=by decide
       omega
     clear hbw HO0 HR0 HB0 e0 hlen
     obtain ⟨bx,hbx⟩:∃ b,b = w3.heap.size:=⟨_,rfl⟩
     rw [← hbx] at HV4 n1 ⊢
     have HBX:=Aside0.mk hbx
     clear hbx
     go_loopg [46] (sps.length + 1) (fun gg s46 w4=>∃ (m:Nat),m ≤ sps.length + 1∧sps.length + 1 - m ≤ gg∧s46 = .int .i64 m∧Aside0 (w4.ownsRow wt.heap.size 74 14 (.slice (some ⟨r,0,none⟩) (sps.length + 1) cp0) (sps.length + 1) (spc (mid f (sp0::sps) m)))∧Aside0 (w4.heap[bx]? = some (.cells #[.int .i64 sp0.tr,.int .i64 1,.slice (some ⟨r,0,none⟩) (sps.length + 1) cp0] 70 (0,0)))∧Aside0 (Below wt.heap.size wt w4))
     case atStart=>exact ⟨0,by omega,by omega,by rfl,HO4,HV4,HB4⟩
     case round=>
      clear HO4 HV4 HB4
      obtain ⟨m,hm,hgm,rfl,HO4,HV4,HB4⟩:=hrel
      have q2:wr.cell? ⟨bx,2,none⟩ = some (.slice (some ⟨r,0,none⟩) (sps.length + 1) cp0):=(blk_cell HV4.out 2).trans rfl
      by_cases hlt:m < sps.length + 1
      ·have g1:decide ((m:Int) < (sps.length:Int) + 1) = true:=by simp;omega
       have g2:(m:Int) < (sps.length:Int) + 1:=by omega
       have g3:(m:Int) < ((sps.length + 1:Nat):Int):=by omega
       have s3:IntKind.i64.wrap ((m:Int) + 1) = (m:Int) + 1:=IntWalk.i64_in _ (by omega)
       go_wp2_with fail
       have hml:(mid f (sp0::sps) m).length = sps.length + 1:=mid_len f (sp0::sps) m
       have ho':wr.ownsRow wt.heap.size 74 14 (.slice (some ⟨r,0,none⟩) (mid f (sp0::sps) m).length cp0) (mid f (sp0::sps) m).length (spc (mid f (sp0::sps) m)):=by rw [hml];exact HO4.out
       have hbW:=below_step HB.out HB4.out
       have hc:=HSH.out wr r cp0 wt.heap.size m (mid f (sp0::sps) m) (by omega) hbW hbW HB.out.size HB4.out.size ho'
       rw [mid_get f (sp0::sps) m hlt,mid_set f (sp0::sps) m hlt,hml] at hc
       refine hc.mono ?_
       rintro e w5 ⟨rfl,ho5,hb5,hk5⟩
       have hbxw:bx < wr.heap.size:=blk_lt HV4.out
       have HV5:=Aside0.mk ((hk5 bx hbxw (Ne.symm n1)).trans HV4.out)
       have HO5:=Aside0.mk ho5
       have HB5:=Aside0.mk (HB4.out.trans hb5)
       clear ho5 hb5 hk5 hc ho' hbW hml q2 HO4 HV4 HB4
       go_wp2_with fail
       go_roundg (sps.length + 1 - (m + 1))
       case measure=>omega
       case rel=>exact ⟨m + 1,by omega,Nat.le_refl _,by go_num,HO5,HV5,HB5⟩
      ·obtain rfl:m = sps.length + 1:=by omega
       have g1:decide (((sps.length + 1:Nat):Int) < (sps.length:Int) + 1) = false:=by simp
       have q0:wr.cell? ⟨bx,0,none⟩ = some (.int .i64 sp0.tr):=(blk_cell HV4.out 0).trans rfl
       have q1:wr.cell? ⟨bx,1,none⟩ = some (.int .i64 1):=(blk_cell HV4.out 1).trans rfl
       have hO:=HO4.out
       have hlen:mid f (sp0::sps) (sps.length + 1) = (sp0::sps).map f:=mid_end f (sp0::sps)
       rw [hlen] at hO
       have HO5:=Aside0.mk (own_base hO HB.out.size)
       have HT5:=Aside0.mk (HT.out.below HB4.out)
       have HO6:=Aside0.mk (pw_own_below HO.out HB4.out)
       have HX5:=Aside0.mk (blk_below HX.out HB4.out)
       have HB5:=Aside0.mk (below_step HB.out HB4.out)
       have hxl:xs.length < 100000:=by
        have h1:=congrArg List.length HM.out
        rw [List.length_map] at h1
        omega
       clear hO hlen HO4 HV4 HB4 HT HO HX HB
       have hbase:w.heap.size ≤ wr.heap.size:=HB5.out.size
       have q2:wr.cell? ⟨bx,2,none⟩ = some (.slice (some ⟨r,0,none⟩) (sps.length + 1) cp0):=q2
       go_wp2_with (at_builtin;go_must (refine print_append_cells (w0:=w) w.heap.size rfl _ _ 62 70 _ 3 40 rfl Tryz.underlying62 info70 rfl (by decide) (by decide) (.slice A xs.length cp) xs.length (trc xs) [.int .i64 sp0.tr,.int .i64 1,.slice (some ⟨r,0,none⟩) (sps.length + 1) cp0] rfl ?c4 rfl ?c1 HO6.out HB5.out ?c2 ?c3 ?_;(case c1=>intro u hu;simp at hu;rcases hu with rfl | rfl | rfl <;> rfl);(case c4=>show Value.slice (some ⟨wr.heap.size,0,none⟩) 1 1 = _;first | rfl | simp);(case c2=>first | omega | (simp;omega));(case c3=>first | omega | (simp;omega));intro v1 w1 hown1 hb1 hg1 hat1;obtain ⟨A1',cp1,rfl⟩:=own_slice hown1;have HW:=Aside0.mk hown1;have HG:=Aside0.mk hg1;have HB6:=Aside0.mk hb1;clear hown1 hg1 hb1 hat1))
       have hkeep:∀ (b:Nat) (cur:Array Value) (ty:TypeId),ty ≠ 70→wr.heap[b]? = some (Obj.cells cur ty (0,0))→w1.heap[b]? = wr.heap[b]?:=fun b cur ty hty hb=>HG.out.block b (blk_lt hb) (fun e=>by
        obtain ⟨cells,hc⟩:=own_typed HO6.out b e.symm
        rw [hb] at hc
        injection hc with hc
        injection hc with _ h2
        exact hty h2)
       have HT7:Aside0 (TsR w1 w.heap.size (xs ++ [(⟨sp0.tr,(sp0::sps).map f⟩,.slice (some ⟨r,0,none⟩) (sps.length + 1) cp0)])):=⟨fun x hx=>by
        rcases List.mem_append.mp hx with hx | hx
        ·exact own_keep (HT5.out x hx) (fun b cur hb=>hkeep b cur 74 (by decide) hb)
        ·obtain rfl:=List.mem_singleton.mp hx
         have h9:=own_keep HO5.out (fun b cur hb=>hkeep b cur 74 (by decide) hb)
         simpa using h9⟩
       have HX7:=Aside0.mk ((hkeep _ _ 36 (by decide) HX5.out).trans HX5.out)
       have HO7:Aside0 (w1.ownsRow w.heap.size 70 3 (.slice A1' (xs ++ [((⟨sp0.tr,(sp0::sps).map f⟩:Tr),Value.slice (some ⟨r,0,none⟩) (sps.length + 1) cp0)]).length cp1) (xs ++ [((⟨sp0.tr,(sp0::sps).map f⟩:Tr),Value.slice (some ⟨r,0,none⟩) (sps.length + 1) cp0)]).length (trc (xs ++ [((⟨sp0.tr,(sp0::sps).map f⟩:Tr),Value.slice (some ⟨r,0,none⟩) (sps.length + 1) cp0)]))):=⟨by
        rw [trc_snoc,List.length_append]
        exact HW.out⟩
       have HM7:Aside0 ((xs ++ [((⟨sp0.tr,(sp0::sps).map f⟩:Tr),Value.slice (some ⟨r,0,none⟩) (sps.length + 1) cp0)]).map (·.1) = acc ++ [⟨sp0.tr,(sp0::sps).map f⟩]):=⟨by
        rw [List.map_append,HM.out]
        rfl⟩
       go_roundg i
       case measure=>omega
       case rel=>exact ⟨i,kk + 1,_,_,cp1,A1',by rw [List.length_append];rfl,by go_num,Nat.le_refl _,HI1,by omega,HK',HM7,HO7,HT7,HB6,HX7⟩
theorem TsOut.base {b b':Nat} {w':World} {ts:List Tr} {v:Value} (h:TsOut b w' ts v) (hb:b' ≤ b):TsOut b' w' ts v:=by
 obtain ⟨xs,h1,h2,h3⟩:=h
 exact ⟨xs,h1,own_base h2 hb,fun x hx=>own_base (h3 x hx) hb⟩
set_option maxHeartbeats 4000000 in
theorem Traces_ok (n k:Nat) (c:Cfg) (p:CfgAt) (w:World) (ts:List Tr) (hR:CfgR w p c) (hck:ckAll k c = some 0) (h:tracesV n c (shiftSp c.off) = some ts):
  Calls Tryz.prog 13 #[c.val p] w fun e w'=>∃ v,e = .returned (.tuple #[v,.int .i64 0])∧TsOut w.heap.size w' ts v∧Below w.heap.size w w':=by
 have HR:=Aside0.mk hR
 have HCK:=Aside0.mk hck
 have HA:=Aside0.mk h
 clear hR hck h
 obtain ⟨A1,c1,A2,c2,A3,c3,A4,c4⟩:=p
 go_enter Tryz.func13,Tryz.ntmps13
 go_wp2_with fail
 have hb:=below_alloc (Below.refl w.heap.size w) (.cells (c.cells ⟨A1,c1,A2,c2,A3,c3,A4,c4⟩) 36)
 have hr1:=HR.out.below hb
 have hn:=blk_new w (.cells (c.cells ⟨A1,c1,A2,c2,A3,c3,A4,c4⟩) 36)
 have hsh:=traces_shows (w.alloc (.cells (c.cells ⟨A1,c1,A2,c2,A3,c3,A4,c4⟩) 36)) c ⟨A1,c1,A2,c2,A3,c3,A4,c4⟩ w.heap.size hr1
 refine (traces_calls n k c ⟨A1,c1,A2,c2,A3,c3,A4,c4⟩ _ 31 #[pv w.heap.size] (shiftSp c.off) ts hr1 ⟨hsh.1,fun W r cp b j l hj hok hB hbb hbW ho=>hsh.2 W r cp b j l hj (blk_below hn hok) hB hbb hbW ho⟩ HCK.out HA.out).mono ?_
 rintro e w1 ⟨v,rfl,ht,hb1⟩
 have HT:=Aside0.mk (ht.base hb.size)
 have HB:=Aside0.mk (below_step hb hb1)
 clear ht hb1 hsh hn hr1 hb
 go_wp2_with fail
 refine bodyPost_ret (results_tmp2 rfl _ _ _) rfl ?_
 exact ⟨v,by rfl,HT.out,HB.out⟩
end Go.Proofs.YtdadnapfecmmdaaGreat.P
namespace Go.Proofs.YtdadnapfecmmdaaGreat.P
open Go.RowKit Go.Proofs.YtdadnapfecmmdaaGreatW.PrintWords Go.Proofs.YtdadnapfecmmdaaGreatW.PrintLast Go.Proofs.YtdadnapfecmmdaaGreatW.PrintMore
attribute [local go_sem] max2_int min2_int max_two min_two max_three min_three max_four min_four   -- for this text's walks alone
set_option linter.unusedVariables false
set_option linter.unusedSimpArgs false
def sleuthlaw55_example.f  : Option (Int × (List (S51)) × (List (S54)) × (List (S98)) × (List (S61)) × Int × Int × Int × Int × Int × Int × Int):=some (0,(([(⟨(⟨#[119,101,98]⟩:ByteArray),1,10,0,0,(([(⟨#[100,98]⟩:ByteArray)]:List ByteArray))⟩:S51),(⟨(⟨#[100,98]⟩:ByteArray),2,4,0,0,([]:List ByteArray)⟩:S51)]:List (S51))),(([(⟨1,5⟩:S54),(⟨2,0⟩:S54)]:List (S54))),([]:List (S98)),([]:List (S61)),3,4,1,0,2,0,0)
set_option maxHeartbeats 8000000 in
set_option maxRecDepth 100000 in
theorem sleuthlaw55_example.calls  (r1:Int) (r2:List (S51)) (r3:List (S54)) (r4:List (S98)) (r5:List (S61)) (r6:Int) (r7:Int) (r8:Int) (r9:Int) (r10:Int) (r11:Int) (r12:Int) (w:World) (h:sleuthlaw55_example.f  = some (r1,r2,r3,r4,r5,r6,r7,r8,r9,r10,r11,r12)):
  Calls Tryz.prog 23 #[] w fun e w'=>∃ v1_ v2_ v3_ v4_:Value,e = .returned (.agg #[.int .i64 r1,v1_,v2_,v3_,v4_,.int .i64 r6,.int .i64 r7,.int .i64 r8,.int .i64 r9,.int .i64 r10,.int .i64 r11,.int .i64 r12])∧Kd.N k51 51 w' w.heap.size (fun k_=>(w.heap.size ≤ k_)∧some k_ ≠ (v2_:Value).ownBlock∧some k_ ≠ (v3_:Value).ownBlock∧some k_ ≠ (v4_:Value).ownBlock) v1_ r2∧Kd.R k54 54 w' w.heap.size (fun k_=>(w.heap.size ≤ k_)) v2_ r3∧Kd.R k98 98 w' w.heap.size (fun k_=>(w.heap.size ≤ k_)) v3_ r4∧Kd.R k61 61 w' w.heap.size (fun k_=>(w.heap.size ≤ k_)) v4_ r5∧Below w.heap.size w w':=by
 have hu36:=Tryz.underlying36
 have hu51:=Tryz.underlying51
 have hu54:=Tryz.underlying54
 have hu34:=Tryz.underlying34
 have HB:=Aside0.mk (Below.refl w.heap.size w)
 have H:(some (0,(([(⟨(⟨#[119,101,98]⟩:ByteArray),1,10,0,0,(([(⟨#[100,98]⟩:ByteArray)]:List ByteArray))⟩:S51),(⟨(⟨#[100,98]⟩:ByteArray),2,4,0,0,([]:List ByteArray)⟩:S51)]:List (S51))),(([(⟨1,5⟩:S54),(⟨2,0⟩:S54)]:List (S54))),([]:List (S98)),([]:List (S61)),3,4,1,0,2,0,0)) = some (r1,r2,r3,r4,r5,r6,r7,r8,r9,r10,r11,r12):=h
 clear h
 obtain ⟨y102,hy102⟩:∃ y_:List ByteArray,y_ = (([(⟨#[100,98]⟩:ByteArray)]:List ByteArray)):=⟨_,rfl⟩
 replace H:(some (0,(([(⟨(⟨#[119,101,98]⟩:ByteArray),1,10,0,0,y102⟩:S51),(⟨(⟨#[100,98]⟩:ByteArray),2,4,0,0,([]:List ByteArray)⟩:S51)]:List (S51))),(([(⟨1,5⟩:S54),(⟨2,0⟩:S54)]:List (S54))),([]:List (S98)),([]:List (S61)),3,4,1,0,2,0,0)) = some (r1,r2,r3,r4,r5,r6,r7,r8,r9,r10,r11,r12):=by first | (rw [hy102];with_reducible exact H) | (have H2_:=(Option.bind_some _ _).symm.trans H;rw [hy102];with_reducible exact H2_) | (have H2_:=(Option.bind_some _ _).symm.trans H;with_reducible exact H2_) | with_reducible exact H | (rw [hy102];exact H) | exact H
 have Ny102:=Aside0.mk hy102
 clear hy102
 obtain ⟨y105,hy105⟩:∃ y_:List (S51),y_ = (([(⟨(⟨#[119,101,98]⟩:ByteArray),1,10,0,0,y102⟩:S51),(⟨(⟨#[100,98]⟩:ByteArray),2,4,0,0,([]:List ByteArray)⟩:S51)]:List (S51))):=⟨_,rfl⟩
 replace H:(some (0,y105,(([(⟨1,5⟩:S54),(⟨2,0⟩:S54)]:List (S54))),([]:List (S98)),([]:List (S61)),3,4,1,0,2,0,0)) = some (r1,r2,r3,r4,r5,r6,r7,r8,r9,r10,r11,r12):=by first | (rw [hy105];with_reducible exact H) | (have H2_:=(Option.bind_some _ _).symm.trans H;rw [hy105];with_reducible exact H2_) | (have H2_:=(Option.bind_some _ _).symm.trans H;with_reducible exact H2_) | with_reducible exact H | (rw [hy105];exact H) | exact H
 have Ny105:=Aside0.mk hy105
 clear hy105
 obtain ⟨y108,hy108⟩:∃ y_:List (S54),y_ = (([(⟨1,5⟩:S54),(⟨2,0⟩:S54)]:List (S54))):=⟨_,rfl⟩
 replace H:(some (0,y105,y108,([]:List (S98)),([]:List (S61)),3,4,1,0,2,0,0)) = some (r1,r2,r3,r4,r5,r6,r7,r8,r9,r10,r11,r12):=by first | (rw [hy108];with_reducible exact H) | (have H2_:=(Option.bind_some _ _).symm.trans H;rw [hy108];with_reducible exact H2_) | (have H2_:=(Option.bind_some _ _).symm.trans H;with_reducible exact H2_) | with_reducible exact H | (rw [hy108];exact H) | exact H
 have Ny108:=Aside0.mk hy108
 clear hy108
 simp only [Option.some.injEq,Prod.mk.injEq] at H
 obtain ⟨rfl,rfl,rfl,rfl,rfl,rfl,rfl,rfl,rfl,rfl,rfl,rfl⟩:=H
 go_enter Tryz.func23,Tryz.ntmps23
 go_wp2_with (first | ((with_reducible refine gate_dst (N:=0) rfl ?_);refine box_event ?hg (N:=0) ?hd (cs:=#[.int .i64 0,.slice none 0 0,.slice none 0 0,.slice none 0 0,.slice none 0 0,.int .i64 0,.int .i64 0,.int .i64 0,.int .i64 0,.int .i64 0,.int .i64 0,.int .i64 0]) (t:=36) ?hr ?_;(case hd=>rfl);(case hg=>rfl);(case hr=>first | (go_simp;done) | (go_simp;rfl));intro gb101 hg w1 hbox hb;have n0_:=Aside0.mk (below_step (by repeat (first | (with_reducible first | exact HB.out | apply below_alloc | apply pw_below_drewN | apply below_drew1) | exact HB.out)) hb);have n1_:=Aside0.mk (hbox);have n2_:=Aside0.mk ((by rw [hg];exact (below_size (by repeat (first | (with_reducible first | exact HB.out | apply below_alloc | apply pw_below_drewN | apply below_drew1) | exact HB.out))):w.heap.size ≤ gb101));have n3_:=Aside0.mk ((by rw [hg];exact (below_size (by repeat (first | (with_reducible first | exact HB.out | apply below_alloc | apply pw_below_drewN | apply below_drew1) | exact HB.out))):w.heap.size ≤ gb101));clear HB;have HB:=n0_;have BK101:=n1_;have GW101:=n2_;have GE101:=n3_;clear n0_ n1_ n2_ n3_;clear hb hbox hg) | ((with_reducible refine gate_dst (N:=1) rfl ?_);refine Kd.R_lit Kd.string _ 9 ?hg (N:=1) ?hd (xs:=([(⟨#[100,98]⟩:ByteArray)]:List ByteArray)) (inner:=[.string (⟨#[100,98]⟩:ByteArray)]) (ok:=fun _=>True) (okp:=fun _=>True) ?hr ?hp (fun _ hk=>hk) trivial (Below.refl _ _) (Nat.le_refl _) (by simp) ?_;(case hd=>rfl);(case hg=>rfl);(case hr=>first | (go_simp;done) | (go_simp;rfl));(case hp=>exact (Reps.one (show Kd.M Kd.string _ _ _ (⟨#[100,98]⟩:ByteArray) [.string (⟨#[100,98]⟩:ByteArray)] from rfl) (Reps.none _ _)));intro v103 w2 ho3 hb hg_ hnew_;clear hg_ hnew_;(first | rw [← Ny102.out] at ho3 | (simp only [Int.reduceToNat] at ho3;rw [← Ny102.out] at ho3));have n0_:=Aside0.mk (Kd.R_lower (Kd.R_newM (M:=fun k_=>(w.heap.size ≤ k_)) ho3 (below_size (by repeat (first | (with_reducible first | exact HB.out | apply below_alloc | apply pw_below_drewN | apply below_drew1 | refine below_set ?_ GE101.out) | exact HB.out))) (fun k_ h_=>h_)) (below_size (by repeat (first | (with_reducible first | exact HB.out | apply below_alloc | apply pw_below_drewN | apply below_drew1 | refine below_set ?_ GE101.out) | exact HB.out))));have n1_:=Aside0.mk (blk_below (g:=gb101) (o:=.cells #[.int .i64 0,.slice none 0 0,.slice none 0 0,.slice none 0 0,.slice none 0 0,.int .i64 0,.int .i64 0,.int .i64 0,.int .i64 0,.int .i64 0,.int .i64 0,.int .i64 0] 36 (0,0)) (by (with_reducible repeat (first | refine blk_drewN ?_ _ | refine blk_drew ?_ | refine blk_alloc ?_ _));exact BK101.out) hb);have n2_:=Aside0.mk (below_step (by repeat (first | (with_reducible first | exact HB.out | apply below_alloc | apply pw_below_drewN | apply below_drew1 | refine below_set ?_ GE101.out) | exact HB.out)) hb);clear BK101;clear HB;have HO104:=n0_;have BK101:=n1_;have HB:=n2_;clear n0_ n1_ n2_;clear hb ho3;obtain ⟨Ao4,co4,eo4⟩:=Kd.R_slice HO104.out;subst eo4) | ((with_reducible refine gate_dst (N:=4) rfl ?_);refine Kd.N_lit k51 _ 51 ?hg (N':=4) ?hd (xs:=([(⟨(⟨#[119,101,98]⟩:ByteArray),1,10,0,0,y102⟩:S51),(⟨(⟨#[100,98]⟩:ByteArray),2,4,0,0,([]:List ByteArray)⟩:S51)]:List (S51))) (inner:=[.string (⟨#[119,101,98]⟩:ByteArray),.int .i64 1,.int .i64 10,.int .i64 0,.int .i64 0,.slice Ao4 y102.length co4,.string (⟨#[100,98]⟩:ByteArray),.int .i64 2,.int .i64 4,.int .i64 0,.int .i64 0,.slice none 0 0]) (ok:=(fun k_=>(w.heap.size ≤ k_)∧k_ ≠ gb101)) (okp:=(fun k_=>(w.heap.size ≤ k_)∧k_ ≠ gb101)) ?hr ?hp (fun _ hk=>hk) ((show ∀ k_,w2.heap.size ≤ k_→(fun k_=>(w.heap.size ≤ k_)∧k_ ≠ gb101) k_ from fun k_ hk=>⟨(Nat.le_trans (below_size (by repeat (first | (with_reducible first | exact HB.out | apply below_alloc | apply pw_below_drewN | apply below_drew1 | refine below_set ?_ GE101.out) | exact HB.out))) hk),Kd.freshB (g:=gb101) (o:=.cells #[.int .i64 0,.slice none 0 0,.slice none 0 0,.slice none 0 0,.slice none 0 0,.int .i64 0,.int .i64 0,.int .i64 0,.int .i64 0,.int .i64 0,.int .i64 0,.int .i64 0] 36 (0,0)) (by (with_reducible repeat (first | refine blk_drewN ?_ _ | refine blk_drew ?_ | refine blk_alloc ?_ _));exact BK101.out) k_ hk⟩) _ (Nat.le_refl _)) (Below.refl _ _) (Nat.le_refl _) (by simp) ?_;(case hd=>rfl);(case hg=>rfl);(case hr=>first | (go_simp;done) | (go_simp;rfl));(case hp=>exact (Reps.c6 (show Kd.FK k51 _ _ (⟨(⟨#[119,101,98]⟩:ByteArray),1,10,0,0,y102⟩:S51) [.string (⟨#[119,101,98]⟩:ByteArray),.int .i64 1,.int .i64 10,.int .i64 0,.int .i64 0,.slice Ao4 y102.length co4] from (k51_mkF _ _ (⟨(⟨#[119,101,98]⟩:ByteArray),1,10,0,0,y102⟩:S51) (Kd.R_reads' (Kd.R_mono (ok':=(fun k_=>(w.heap.size ≤ k_)∧k_ ≠ gb101)) (Kd.R_types (HO104.out) BK101.out (by decide)) (fun k_ hk=>⟨hk.1.1,hk.2⟩))).2.1 (Kd.R_F (Kd.R_mono (ok':=(fun k_=>(w.heap.size ≤ k_)∧k_ ≠ gb101)) (Kd.R_types (HO104.out) BK101.out (by decide)) (fun k_ hk=>⟨hk.1.1,hk.2⟩))))) (Reps.c6 (show Kd.FK k51 _ _ (⟨(⟨#[100,98]⟩:ByteArray),2,4,0,0,([]:List ByteArray)⟩:S51) [.string (⟨#[100,98]⟩:ByteArray),.int .i64 2,.int .i64 4,.int .i64 0,.int .i64 0,.slice none 0 0] from (k51_mkF _ _ (⟨(⟨#[100,98]⟩:ByteArray),2,4,0,0,([]:List ByteArray)⟩:S51) (Nat.le_refl _) (Kd.F_nil _ _ _))) (Reps.none _ _))));intro v106 w5 ho6 hb hg_ hnew_;clear hg_ hnew_;(first | rw [← Ny105.out] at ho6 | (simp only [Int.reduceToNat] at ho6;rw [← Ny105.out] at ho6));have n0_:=Aside0.mk (Kd.N_lower ho6 (below_size (by repeat (first | (with_reducible first | exact HB.out | apply below_alloc | apply pw_below_drewN | apply below_drew1 | refine below_set ?_ GE101.out) | exact HB.out))));have n1_:=Aside0.mk (blk_below (g:=gb101) (o:=.cells #[.int .i64 0,.slice none 0 0,.slice none 0 0,.slice none 0 0,.slice none 0 0,.int .i64 0,.int .i64 0,.int .i64 0,.int .i64 0,.int .i64 0,.int .i64 0,.int .i64 0] 36 (0,0)) (by (with_reducible repeat (first | refine blk_drewN ?_ _ | refine blk_drew ?_ | refine blk_alloc ?_ _));exact BK101.out) hb);have n2_:=Aside0.mk (below_step (by repeat (first | (with_reducible first | exact HB.out | apply below_alloc | apply pw_below_drewN | apply below_drew1 | refine below_set ?_ GE101.out) | exact HB.out)) hb);clear BK101;clear HB;clear HO104;have HO107:=n0_;have BK101:=n1_;have HB:=n2_;clear n0_ n1_ n2_;clear hb ho6) | ((with_reducible refine gate_dst (N:=7) rfl ?_);refine Kd.R_lit k54 _ 54 ?hg (N:=7) ?hd (xs:=([(⟨1,5⟩:S54),(⟨2,0⟩:S54)]:List (S54))) (inner:=[.int .i64 1,.int .i64 5,.int .i64 2,.int .i64 0]) (ok:=fun _=>True) (okp:=fun _=>True) ?hr ?hp (fun _ hk=>hk) trivial (Below.refl _ _) (Nat.le_refl _) (by simp) ?_;(case hd=>rfl);(case hg=>rfl);(case hr=>first | (go_simp;done) | (go_simp;rfl));(case hp=>exact (Reps.c2 (show Kd.M k54 _ _ _ (⟨1,5⟩:S54) [.int .i64 1,.int .i64 5] from (k54_mkM _ _ _ (⟨1,5⟩:S54) )) (Reps.c2 (show Kd.M k54 _ _ _ (⟨2,0⟩:S54) [.int .i64 2,.int .i64 0] from (k54_mkM _ _ _ (⟨2,0⟩:S54) )) (Reps.none _ _))));intro v109 w7 ho8 hb hg_ hnew_;clear hg_ hnew_;(first | rw [← Ny108.out] at ho8 | (simp only [Int.reduceToNat] at ho8;rw [← Ny108.out] at ho8));have n0_:=Aside0.mk (Kd.N_elder' (by (with_reducible repeat (first | apply Kd.N_alloc | apply Kd.N_drewN | apply Kd.N_drew));exact HO107.out) (Kd.R_base ho8) hb);have n1_:=Aside0.mk (Kd.R_lower (Kd.R_newM (M:=fun k_=>(w.heap.size ≤ k_)) ho8 (below_size (by repeat (first | (with_reducible first | exact HB.out | apply below_alloc | apply pw_below_drewN | apply below_drew1 | refine below_set ?_ GE101.out) | exact HB.out))) (fun k_ h_=>h_)) (below_size (by repeat (first | (with_reducible first | exact HB.out | apply below_alloc | apply pw_below_drewN | apply below_drew1 | refine below_set ?_ GE101.out) | exact HB.out))));have n2_:=Aside0.mk (blk_below (g:=gb101) (o:=.cells #[.int .i64 0,.slice none 0 0,.slice none 0 0,.slice none 0 0,.slice none 0 0,.int .i64 0,.int .i64 0,.int .i64 0,.int .i64 0,.int .i64 0,.int .i64 0,.int .i64 0] 36 (0,0)) (by (with_reducible repeat (first | refine blk_drewN ?_ _ | refine blk_drew ?_ | refine blk_alloc ?_ _));exact BK101.out) hb);have n3_:=Aside0.mk (below_step (by repeat (first | (with_reducible first | exact HB.out | apply below_alloc | apply pw_below_drewN | apply below_drew1 | refine below_set ?_ GE101.out) | exact HB.out)) hb);clear HO107;clear BK101;clear HB;have HO107:=n0_;have HO110:=n1_;have BK101:=n2_;have HB:=n3_;clear n0_ n1_ n2_ n3_;clear hb ho8;obtain ⟨Ao9,co9,eo9⟩:=Kd.R_slice HO110.out;subst eo9;obtain ⟨Ao10,co10,eo10⟩:=Kd.N_slice HO107.out;subst eo10;have hcz11_0:w7.cell? ⟨gb101,0,none⟩ = some (.int .i64 0):=(blk_cell BK101.out 0).trans rfl;have hcz11_1:w7.cell? ⟨gb101,1,none⟩ = some (.slice none 0 0):=(blk_cell BK101.out 1).trans rfl;have hcz11_2:w7.cell? ⟨gb101,2,none⟩ = some (.slice none 0 0):=(blk_cell BK101.out 2).trans rfl;have hcz11_3:w7.cell? ⟨gb101,3,none⟩ = some (.slice none 0 0):=(blk_cell BK101.out 3).trans rfl;have hcz11_4:w7.cell? ⟨gb101,4,none⟩ = some (.slice none 0 0):=(blk_cell BK101.out 4).trans rfl;have hcz11_5:w7.cell? ⟨gb101,5,none⟩ = some (.int .i64 0):=(blk_cell BK101.out 5).trans rfl;have hcz11_6:w7.cell? ⟨gb101,6,none⟩ = some (.int .i64 0):=(blk_cell BK101.out 6).trans rfl;have hcz11_7:w7.cell? ⟨gb101,7,none⟩ = some (.int .i64 0):=(blk_cell BK101.out 7).trans rfl;have hcz11_8:w7.cell? ⟨gb101,8,none⟩ = some (.int .i64 0):=(blk_cell BK101.out 8).trans rfl;have hcz11_9:w7.cell? ⟨gb101,9,none⟩ = some (.int .i64 0):=(blk_cell BK101.out 9).trans rfl;have hcz11_10:w7.cell? ⟨gb101,10,none⟩ = some (.int .i64 0):=(blk_cell BK101.out 10).trans rfl;have hcz11_11:w7.cell? ⟨gb101,11,none⟩ = some (.int .i64 0):=(blk_cell BK101.out 11).trans rfl;have hfz11_0:=blk_frozen BK101.out 0;have hfz11_1:=blk_frozen BK101.out 1;have hfz11_2:=blk_frozen BK101.out 2;have hfz11_3:=blk_frozen BK101.out 3;have hfz11_4:=blk_frozen BK101.out 4;have hfz11_5:=blk_frozen BK101.out 5;have hfz11_6:=blk_frozen BK101.out 6;have hfz11_7:=blk_frozen BK101.out 7;have hfz11_8:=blk_frozen BK101.out 8;have hfz11_9:=blk_frozen BK101.out 9;have hfz11_10:=blk_frozen BK101.out 10;have hfz11_11:=blk_frozen BK101.out 11))
 refine bodyPost_ret (results_cell_row rfl _ _ gb101 36 #[.int .i64 0,.slice Ao10 y105.length co10,.slice Ao9 y108.length co9,.slice none 0 0,.slice none 0 0,.int .i64 3,.int .i64 4,.int .i64 1,.int .i64 0,.int .i64 2,.int .i64 0,.int .i64 0] (0,0) _ rfl (by (with_reducible repeat (first | refine blk_drewN ?_ _ | refine blk_drew ?_ | refine blk_alloc ?_ _));refine blk_put (cs:=#[.int .i64 0,.slice Ao10 y105.length co10,.slice Ao9 y108.length co9,.slice none 0 0,.slice none 0 0,.int .i64 3,.int .i64 4,.int .i64 1,.int .i64 0,.int .i64 2,.int .i64 0,.int .i64 0]) ?_ 11 _ rfl;(with_reducible repeat (first | refine blk_drewN ?_ _ | refine blk_drew ?_ | refine blk_alloc ?_ _));refine blk_put (cs:=#[.int .i64 0,.slice Ao10 y105.length co10,.slice Ao9 y108.length co9,.slice none 0 0,.slice none 0 0,.int .i64 3,.int .i64 4,.int .i64 1,.int .i64 0,.int .i64 2,.int .i64 0,.int .i64 0]) ?_ 10 _ rfl;(with_reducible repeat (first | refine blk_drewN ?_ _ | refine blk_drew ?_ | refine blk_alloc ?_ _));refine blk_put (cs:=#[.int .i64 0,.slice Ao10 y105.length co10,.slice Ao9 y108.length co9,.slice none 0 0,.slice none 0 0,.int .i64 3,.int .i64 4,.int .i64 1,.int .i64 0,.int .i64 0,.int .i64 0,.int .i64 0]) ?_ 9 _ rfl;(with_reducible repeat (first | refine blk_drewN ?_ _ | refine blk_drew ?_ | refine blk_alloc ?_ _));refine blk_put (cs:=#[.int .i64 0,.slice Ao10 y105.length co10,.slice Ao9 y108.length co9,.slice none 0 0,.slice none 0 0,.int .i64 3,.int .i64 4,.int .i64 1,.int .i64 0,.int .i64 0,.int .i64 0,.int .i64 0]) ?_ 8 _ rfl;(with_reducible repeat (first | refine blk_drewN ?_ _ | refine blk_drew ?_ | refine blk_alloc ?_ _));refine blk_put (cs:=#[.int .i64 0,.slice Ao10 y105.length co10,.slice Ao9 y108.length co9,.slice none 0 0,.slice none 0 0,.int .i64 3,.int .i64 4,.int .i64 0,.int .i64 0,.int .i64 0,.int .i64 0,.int .i64 0]) ?_ 7 _ rfl;(with_reducible repeat (first | refine blk_drewN ?_ _ | refine blk_drew ?_ | refine blk_alloc ?_ _));refine blk_put (cs:=#[.int .i64 0,.slice Ao10 y105.length co10,.slice Ao9 y108.length co9,.slice none 0 0,.slice none 0 0,.int .i64 3,.int .i64 0,.int .i64 0,.int .i64 0,.int .i64 0,.int .i64 0,.int .i64 0]) ?_ 6 _ rfl;(with_reducible repeat (first | refine blk_drewN ?_ _ | refine blk_drew ?_ | refine blk_alloc ?_ _));refine blk_put (cs:=#[.int .i64 0,.slice Ao10 y105.length co10,.slice Ao9 y108.length co9,.slice none 0 0,.slice none 0 0,.int .i64 0,.int .i64 0,.int .i64 0,.int .i64 0,.int .i64 0,.int .i64 0,.int .i64 0]) ?_ 5 _ rfl;(with_reducible repeat (first | refine blk_drewN ?_ _ | refine blk_drew ?_ | refine blk_alloc ?_ _));refine blk_put (cs:=#[.int .i64 0,.slice Ao10 y105.length co10,.slice Ao9 y108.length co9,.slice none 0 0,.slice none 0 0,.int .i64 0,.int .i64 0,.int .i64 0,.int .i64 0,.int .i64 0,.int .i64 0,.int .i64 0]) ?_ 4 _ rfl;(with_reducible repeat (first | refine blk_drewN ?_ _ | refine blk_drew ?_ | refine blk_alloc ?_ _));refine blk_put (cs:=#[.int .i64 0,.slice Ao10 y105.length co10,.slice Ao9 y108.length co9,.slice none 0 0,.slice none 0 0,.int .i64 0,.int .i64 0,.int .i64 0,.int .i64 0,.int .i64 0,.int .i64 0,.int .i64 0]) ?_ 3 _ rfl;(with_reducible repeat (first | refine blk_drewN ?_ _ | refine blk_drew ?_ | refine blk_alloc ?_ _));refine blk_put (cs:=#[.int .i64 0,.slice Ao10 y105.length co10,.slice none 0 0,.slice none 0 0,.slice none 0 0,.int .i64 0,.int .i64 0,.int .i64 0,.int .i64 0,.int .i64 0,.int .i64 0,.int .i64 0]) ?_ 2 _ rfl;(with_reducible repeat (first | refine blk_drewN ?_ _ | refine blk_drew ?_ | refine blk_alloc ?_ _));refine blk_put (cs:=#[.int .i64 0,.slice none 0 0,.slice none 0 0,.slice none 0 0,.slice none 0 0,.int .i64 0,.int .i64 0,.int .i64 0,.int .i64 0,.int .i64 0,.int .i64 0,.int .i64 0]) ?_ 1 _ rfl;(with_reducible repeat (first | refine blk_drewN ?_ _ | refine blk_drew ?_ | refine blk_alloc ?_ _));refine blk_put (cs:=#[.int .i64 0,.slice none 0 0,.slice none 0 0,.slice none 0 0,.slice none 0 0,.int .i64 0,.int .i64 0,.int .i64 0,.int .i64 0,.int .i64 0,.int .i64 0,.int .i64 0]) ?_ 0 _ rfl;(with_reducible repeat (first | refine blk_drewN ?_ _ | refine blk_drew ?_ | refine blk_alloc ?_ _));exact BK101.out) Tryz.underlying36 rfl (by kernel_rfl)) rfl ?_
 exact ⟨_,_,_,_,by first | rfl | (simp [errW_none,errW_some] <;> rfl) | (simp [*,errW_none,errW_some] <;> rfl),by (with_reducible repeat (first | apply Kd.N_alloc | apply Kd.N_drewN | apply Kd.N_drew));exact Kd.N_mono (Kd.N_far (p:=⟨gb101,11,none⟩) (Kd.N_far (p:=⟨gb101,10,none⟩) (Kd.N_far (p:=⟨gb101,9,none⟩) (Kd.N_far (p:=⟨gb101,8,none⟩) (Kd.N_far (p:=⟨gb101,7,none⟩) (Kd.N_far (p:=⟨gb101,6,none⟩) (Kd.N_far (p:=⟨gb101,5,none⟩) (Kd.N_far (p:=⟨gb101,4,none⟩) (Kd.N_far (p:=⟨gb101,3,none⟩) (Kd.N_far (p:=⟨gb101,2,none⟩) (Kd.N_far (p:=⟨gb101,1,none⟩) (Kd.N_far (p:=⟨gb101,0,none⟩) (Kd.N_mono HO107.out (fun k_ hk=>(⟨hk,hk.1.2⟩:_∧k_ ≠ gb101))) (fun _ hk=>hk.2) (.int .i64 0)) (fun _ hk=>hk.2) (.slice Ao10 y105.length co10)) (fun _ hk=>hk.2) (.slice Ao9 y108.length co9)) (fun _ hk=>hk.2) (.slice none 0 0)) (fun _ hk=>hk.2) (.slice none 0 0)) (fun _ hk=>hk.2) (.int .i64 3)) (fun _ hk=>hk.2) (.int .i64 4)) (fun _ hk=>hk.2) (.int .i64 1)) (fun _ hk=>hk.2) (.int .i64 0)) (fun _ hk=>hk.2) (.int .i64 2)) (fun _ hk=>hk.2) (.int .i64 0)) (fun _ hk=>hk.2) (.int .i64 0)) (fun _ hk=>⟨hk.1.1.1,⟨hk.1.2,⟨(by simp [Value.ownBlock]),(by simp [Value.ownBlock])⟩⟩⟩),by (with_reducible repeat (first | apply Kd.R_alloc | apply Kd.R_drewN | apply Kd.R_drew));exact Kd.R_mono (Kd.R_far (p:=⟨gb101,11,none⟩) (Kd.R_far (p:=⟨gb101,10,none⟩) (Kd.R_far (p:=⟨gb101,9,none⟩) (Kd.R_far (p:=⟨gb101,8,none⟩) (Kd.R_far (p:=⟨gb101,7,none⟩) (Kd.R_far (p:=⟨gb101,6,none⟩) (Kd.R_far (p:=⟨gb101,5,none⟩) (Kd.R_far (p:=⟨gb101,4,none⟩) (Kd.R_far (p:=⟨gb101,3,none⟩) (Kd.R_far (p:=⟨gb101,2,none⟩) (Kd.R_far (p:=⟨gb101,1,none⟩) (Kd.R_far (p:=⟨gb101,0,none⟩) (Kd.R_types HO110.out BK101.out (by decide)) (fun _ hk=>hk.2) (.int .i64 0)) (fun _ hk=>hk.2) (.slice Ao10 y105.length co10)) (fun _ hk=>hk.2) (.slice Ao9 y108.length co9)) (fun _ hk=>hk.2) (.slice none 0 0)) (fun _ hk=>hk.2) (.slice none 0 0)) (fun _ hk=>hk.2) (.int .i64 3)) (fun _ hk=>hk.2) (.int .i64 4)) (fun _ hk=>hk.2) (.int .i64 1)) (fun _ hk=>hk.2) (.int .i64 0)) (fun _ hk=>hk.2) (.int .i64 2)) (fun _ hk=>hk.2) (.int .i64 0)) (fun _ hk=>hk.2) (.int .i64 0)) (fun _ hk=>hk.1.1),by first | exact Kd.R_nil _ _ _ _ _ | exact Kd.N_nil _ _ _ _ _ | exact Kd.V_nil _ _ _ _ _ | exact Kd.Q_nil _ _ _ _ _ | exact Kd.S_nil _ _ _ _ _,by first | exact Kd.R_nil _ _ _ _ _ | exact Kd.N_nil _ _ _ _ _ | exact Kd.V_nil _ _ _ _ _ | exact Kd.Q_nil _ _ _ _ _ | exact Kd.S_nil _ _ _ _ _,by repeat (first | (with_reducible first | exact HB.out | apply below_alloc | apply pw_below_drewN | apply below_drew1 | refine below_set ?_ GE101.out) | exact HB.out)⟩
end Go.Proofs.YtdadnapfecmmdaaGreat.P
namespace Go.Proofs.YtdadnapfecmmdaaGreat.P
set_option linter.unusedVariables false
set_option linter.unusedSimpArgs false
open Go.RowKit Go.Proofs.YtdadnapfecmmdaaGreatW.PrintWords Go.Proofs.YtdadnapfecmmdaaGreatW.PrintLast Go.Proofs.YtdadnapfecmmdaaGreatW.PrintMore
open Go.Proofs.YtdadnapfecmmdaaGreat.Hm
def exC:Cfg:=⟨0,[⟨⟨#[119,101,98]⟩,1,10,0,0,[⟨#[100,98]⟩]⟩,⟨⟨#[100,98]⟩,2,4,0,0,[]⟩],[⟨1,5⟩,⟨2,0⟩],[],[],3,4,1,0,2,0,0⟩
def exT:List Tr:=[⟨3145729,[⟨3145729,1,0,0,1,3,⟨#[119,101,98]⟩,⟨#[]⟩,strServe,3005,3019,false⟩,⟨3145729,2,1,0,1,2,⟨#[119,101,98]⟩,⟨#[]⟩,strCall,3010,3014,false⟩,⟨3145729,3,2,0,2,3,⟨#[100,98]⟩,⟨#[]⟩,strServe,3005,3009,false⟩]⟩]
theorem ex_valid:Valid exC where
 seed0:=by decide
 seed1:=by decide
 n0:=by decide
 n1:=by decide
 nf:=by decide
 sname:=fun i h=>match i,h with
  | 0,_=>NameOk.of (by kernel_rfl)
  | 1,_=>NameOk.of (by kernel_rfl)
 sidx:=fun i h=>match i,h with
  | 0,_=>by rw [show svIdx exC.sv exC.sv[0].f0 = 0 from by kernel_rfl];decide
  | 1,_=>by rw [show svIdx exC.sv exC.sv[1].f0 = 1 from by kernel_rfl];decide
 srange:=fun i h=>match i,h with
  | 0,_=>by simp [exC]
  | 1,_=>by simp [exC]
 slen:=fun i h=>match i,h with
  | 0,_=>by simp [exC]
  | 1,_=>by simp [exC]
 scall:=fun i h=>match i,h with
  | 0,_=>fun nm hm=>by
   obtain rfl:nm = ⟨#[100,98]⟩:=List.mem_singleton.mp hm
   rw [show svIdx exC.sv ⟨#[100,98]⟩ = 1 from by kernel_rfl];decide
  | 1,_=>fun nm hm=>by cases hm
 off:=fun i h=>match i,h with
  | 0,_=>by simp [exC]
  | 1,_=>by simp [exC]
 offn:=by decide
 offo:=fun i h=>match i,h with
  | 0,_=>by simp [exC]
 gap:=fun i h=>match i,h with
  | 0,_=>by kernel_rfl
  | 1,_=>by kernel_rfl
 ch:=by kernel_rfl
 fsvc:=fun i h=>absurd h (Nat.not_lt_zero i)
 fver:=fun i h=>absurd h (Nat.not_lt_zero i)
 fwhen:=fun i h=>absurd h (Nat.not_lt_zero i)
 frange:=fun i h=>absurd h (Nat.not_lt_zero i)
 t0:=by decide
 t1:=by decide
 t2:=by decide
 t3:=by decide
 per0:=by decide
 per1:=by decide
 del0:=by decide
 del1:=by decide
 chu0:=by decide
 chu1:=by decide
 los0:=by decide
 los1:=by decide
 rep0:=by decide
 rep1:=by decide
 cnt:=by rw [show cntOf exC.sv = 3 from by kernel_rfl];decide
theorem ex_check:ckAll 20 exC = some 0:=ckAll_ok ex_valid 20
theorem ex_traces:tracesV 20 exC (shiftSp exC.off) = some exT:=by kernel_rfl
end Go.Proofs.YtdadnapfecmmdaaGreat.P
