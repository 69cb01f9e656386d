/- Own texts of a proof about layer 55's simulate (merged): Fs, Fz, Mp, Sk, Rg, Ft. -/
import Derived.Test.YtdadnapfecmmdaaGreatXs0
import Derived.Test.YtdadnapfecmmdaaGreatXs11
import Derived.Test.YtdadnapfecmmdaaGreatXs15
import Derived.Test.YtdadnapfecmmdaaGreatXs17
import Derived.Test.YtdadnapfecmmdaaGreatXs2
import Derived.Test.YtdadnapfecmmdaaGreatXs9
import Derived.Lib.SlicesCompact
import Derived.WalkKit
import Derived.OwnWalkIn
import Derived.TacticsInMore
import Derived.LoopNIn
import Derived.LoopIn
import Derived.RangeFuncFrom
import Derived.RangeFuncBound
import Derived.RangeFuncCalls
import Derived.RangeFuncLeaves
import Derived.OrdersIn
import Derived.TacticsIn
namespace Go.Proofs.YtdadnapfecmmdaaGreat.P
set_option linter.unusedVariables false
set_option linter.unusedSimpArgs false
open Go.RowKit Go.Proofs.YtdadnapfecmmdaaGreatW.PrintWords Go.Proofs.YtdadnapfecmmdaaGreatW.PrintLast Go.Proofs.YtdadnapfecmmdaaGreatW.PrintMore
def frc:List (Fr × Value)→List Value
 | []=>[]
 | x::r=>[.int .i64 x.1.agent,.int .i64 x.1.seq,x.2,.slice none 0 0] ++ frc r
theorem frc_snoc (l:List (Fr × Value)) (x:Fr × Value):frc (l ++ [x]) = frc l ++ [.int .i64 x.1.agent,.int .i64 x.1.seq,x.2,.slice none 0 0]:=by
 induction l with
 | nil=>rfl
 | cons a r ih=>simp [frc,ih]
theorem frc_len (l:List (Fr × Value)):(frc l).length = l.length * 4:=by
 induction l with
 | nil=>rfl
 | cons a r ih=>simp only [frc,List.length_append,List.length_cons,List.length_nil,ih];omega
theorem own_block {W:World} {b:Nat} {e:TypeId} {sz n:Nat} {v:Value} {xs:List Value} (h:W.ownsRow b e sz v n xs) (k:Nat) (hk:v.ownBlock = some k):k < W.heap.size∧b ≤ k:=by
 rcases h.2 with ⟨rfl,_⟩ | ⟨g,cap,cur,h1,h2,h3,h4⟩
 ·cases hk
 ·subst h1
  injection hk with hk
  subst hk
  exact ⟨blk_lt h3,h2⟩
def RowsB (W:World) (base B:Nat) (rs:List (List Sp × Value)):Prop:=∀ x ∈ rs,W.ownsRow base 74 14 x.2 x.1.length (spc x.1)∧∀ k,x.2.ownBlock = some k→k < B
section
variable {W W1:World} {base B B':Nat} {rs:List (List Sp × Value)} {v v1:Value} {n:Nat} {xs:List Value}
theorem RowsB.below (h:RowsB W base B rs) (hb:Below W.heap.size W W1):RowsB W1 base B rs:=fun x hx=>⟨pw_own_below (h x hx).1 hb,(h x hx).2⟩
theorem RowsB.mono (h:RowsB W base B rs) (hB:B ≤ B'):RowsB W base B' rs:=fun x hx=>⟨(h x hx).1,fun k hk=>Nat.lt_of_lt_of_le ((h x hx).2 k hk) hB⟩
theorem RowsB.low (h:RowsB W base B rs) {b:Nat} (hb:b ≤ base):RowsB W b B rs:=fun x hx=>⟨own_base (h x hx).1 hb,(h x hx).2⟩
theorem RowsB.grow (h:RowsB W base B rs) (ho:W.ownsRow B 74 14 v n xs) (hg:W.grownBy W1 v.ownBlock):RowsB W1 base B rs:=fun x hx=>
 ⟨own_other (h x hx).1 hg (by
  cases hk:x.2.ownBlock with
  | none=>exact .inl rfl
  | some k=>
   refine .inr fun e=>?_
   have h1:=(h x hx).2 k hk
   have h2:=(own_block ho k e.symm).2
   omega),(h x hx).2⟩
theorem RowsB.other (h:RowsB W base B rs) {b:Nat} (ho:W.ownsRow b 81 4 v n xs) (hg:W.grownBy W1 v.ownBlock):RowsB W1 base B rs:=fun x hx=>
 ⟨own_other (h x hx).1 hg (by
  cases hk:x.2.ownBlock with
  | none=>exact .inl rfl
  | some k=>
   refine .inr fun e=>?_
   obtain ⟨c1,h1⟩:=own_typed (h x hx).1 k hk
   obtain ⟨c2,h2⟩:=own_typed ho k e.symm
   rw [h1] at h2
   injection h2 with h2
   injection h2 with _ h3
   cases h3),(h x hx).2⟩
theorem RowsB.set (h:RowsB W base B rs) {g:Nat} {cs:Array Value} {ty:TypeId} (hb:W.heap[g]? = some (.cells cs ty (0,0))) (hty:74 ≠ ty) (i:Nat) (u:Value):RowsB (W.setCell ⟨g,i,none⟩ u) base B rs:=fun x hx=>
 ⟨own_setCell (h x hx).1 (own_ne (h x hx).1 hb hty) u,(h x hx).2⟩
theorem RowsB.snoc (h:RowsB W base B rs) {l:List Sp} {u:Value} (ho:W.ownsRow base 74 14 u l.length (spc l)) (hB:∀ k,u.ownBlock = some k→k < B):RowsB W base B (rs ++ [(l,u)]):=fun x hx=>by
 rcases List.mem_append.mp hx with hx | hx
 ·exact h x hx
 ·obtain rfl:=List.mem_singleton.mp hx
  exact ⟨ho,hB⟩
end
def FsOut (base:Nat) (w':World) (fs:List Fr) (v:Value):Prop:=∃ xs:List (Fr × Value),xs.map (·.1) = fs∧w'.ownsRow base 81 4 v xs.length (frc xs)∧RowsB w' base w'.heap.size (xs.map fun x=>(x.1.l,x.2))
def allSp (ts:List Tr):List Sp:=ts.flatMap (·.l)
def spansOf (ts:List Tr) (k:Int):List Sp:=(allSp ts).filter fun s=>s.clk == k
def sentL (n:Nat) (ts:List Tr) (ks:List Int):List Fr:=ks.flatMap fun k=>frs k n 0 (spansOf ts k)
end Go.Proofs.YtdadnapfecmmdaaGreat.P
namespace Go.Proofs.YtdadnapfecmmdaaGreat.P
set_option linter.unusedVariables false
set_option linter.unusedSimpArgs false
theorem frs_len (k:Int) (n:Nat) (hn:0 < n):∀ (m:Nat) (l:List Sp) (seq:Int),l.length ≤ m→(frs k n seq l).length ≤ l.length
 | 0,l,seq,h=>by obtain rfl:=List.eq_nil_of_length_eq_zero (by omega:l.length = 0);rw [frs_nil];exact Nat.le_refl _
 | m + 1,l,seq,h=>by
  by_cases hl:l = []
  ·subst hl;rw [frs_nil];exact Nat.le_refl _
  ·have h0:0 < l.length:=List.length_pos_iff.mpr hl
   rw [frs_cons k n seq l hl hn,List.length_cons]
   have:=frs_len k n hn m (l.drop n) (seq + 1) (by rw [List.length_drop];omega)
   rw [List.length_drop] at this
   omega
theorem sentL_len (n:Nat) (hn:0 < n) (ts:List Tr) (ks:List Int):(sentL n ts ks).length ≤ ks.length * (allSp ts).length:=by
 unfold sentL
 induction ks with
 | nil=>simp
 | cons k r ih=>
  rw [List.flatMap_cons,List.length_append,List.length_cons,Nat.add_mul]
  have h1:=frs_len k n hn _ (spansOf ts k) 0 (Nat.le_refl _)
  have h2:(spansOf ts k).length ≤ (allSp ts).length:=List.length_filter_le _ _
  omega
def cmpI (zs:List Int):List Int:=Go.Lib.compactUpTo zs.toArray zs.length
theorem cmp_to (zs:List Int) (hs:zs.Pairwise (· ≤ ·)):∀ m,m ≤ zs.length→(Go.Lib.compactUpTo zs.toArray m).Pairwise (· < ·)∧(∀ x ∈ Go.Lib.compactUpTo zs.toArray m,∃ j,j < m∧zs.toArray[j]! = x)∧(∀ j,j < m→zs.toArray[j]! ∈ Go.Lib.compactUpTo zs.toArray m)
 | 0,_=>⟨by simp [Go.Lib.compactUpTo],by simp [Go.Lib.compactUpTo],fun j hj=>by omega⟩
 | m + 1,hm=>by
  obtain ⟨h1,h2,h3⟩:=cmp_to zs hs m (by omega)
  have hle:∀ i j,i ≤ j→j < zs.length→zs.toArray[i]! ≤ zs.toArray[j]!:=fun i j hij hj=>by
   rcases Nat.lt_or_eq_of_le hij with h | h
   ·have:=List.pairwise_iff_getElem.mp hs i j (by omega) hj h
    simpa [show i < zs.length by omega,hj] using this
   ·subst h;exact Int.le_refl _
  rw [Go.Lib.compactUpTo_succ]
  by_cases hk:Go.Lib.keeps zs.toArray m = true
  ·rw [if_pos hk]
   have hk2:m = 0 ∨ zs.toArray[m]! ≠ zs.toArray[m - 1]!:=by unfold Go.Lib.keeps at hk;exact of_decide_eq_true hk
   refine ⟨?_,?_,?_⟩
   ·rw [List.pairwise_append]
    refine ⟨h1,List.pairwise_singleton _ _,fun a ha b hb=>?_⟩
    obtain rfl:=List.mem_singleton.mp hb
    obtain ⟨j,hj,rfl⟩:=h2 a ha
    rcases hk2 with h | h
    ·omega
    ·have e1:=hle j (m - 1) (by omega) (by omega)
     have e2:=hle (m - 1) m (by omega) (by omega)
     omega
   ·intro x hx
    rcases List.mem_append.mp hx with hx | hx
    ·obtain ⟨j,hj,e⟩:=h2 x hx;exact ⟨j,by omega,e⟩
    ·obtain rfl:=List.mem_singleton.mp hx;exact ⟨m,by omega,rfl⟩
   ·intro j hj
    by_cases e:j = m
    ·subst e;exact List.mem_append_right _ (List.mem_singleton.mpr rfl)
    ·exact List.mem_append_left _ (h3 j (by omega))
  ·rw [if_neg hk,List.append_nil]
   have hk2:0 < m∧zs.toArray[m]! = zs.toArray[m - 1]!:=by
    unfold Go.Lib.keeps at hk
    simp only [ne_eq,decide_eq_true_eq,not_or,Decidable.not_not] at hk
    exact ⟨by omega,hk.2⟩
   refine ⟨h1,fun x hx=>by obtain ⟨j,hj,e⟩:=h2 x hx;exact ⟨j,by omega,e⟩,fun j hj=>?_⟩
   by_cases e:j = m
   ·subst e;rw [hk2.2];exact h3 _ (by omega)
   ·exact h3 j (by omega)
theorem cmp_lt (zs:List Int) (hs:zs.Pairwise (· ≤ ·)):(cmpI zs).Pairwise (· < ·):=(cmp_to zs hs zs.length (Nat.le_refl _)).1
theorem cmp_mem (zs:List Int) (hs:zs.Pairwise (· ≤ ·)) (x:Int):x ∈ cmpI zs ↔ x ∈ zs:=by
 obtain ⟨_,h2,h3⟩:=cmp_to zs hs zs.length (Nat.le_refl _)
 constructor
 ·intro h
  obtain ⟨j,hj,rfl⟩:=h2 x h
  simp [hj]
 ·intro h
  obtain ⟨j,hj,rfl⟩:=List.getElem_of_mem h
  have h4:=h3 j hj
  have e:zs.toArray[j]! = zs[j]:=by simp [hj]
  rw [e] at h4
  exact h4
theorem cmp_len (zs:List Int):(cmpI zs).length ≤ zs.length:=by
 unfold cmpI Go.Lib.compactUpTo
 rw [List.length_map]
 refine Nat.le_trans (List.length_filter_le _ _) ?_
 rw [List.length_range];exact Nat.le_refl _
theorem flat_same {F:Int→List Fr} {os ks:List Int} (ho:os.Pairwise (· < ·)) (hk:ks.Pairwise (· < ·)) (hsub:∀ k ∈ ks,k ∈ os) (hF:∀ k ∈ os,k ∉ ks→F k = []):ks.flatMap F = os.flatMap F:=by
 have hnd:∀ l:List Int,l.Pairwise (· < ·)→l.Nodup:=fun l h=>h.imp (fun h e=>by omega)
 have hf:=ho.filter (fun k=>decide (k ∈ ks))
 have hp:ks.Perm (os.filter (fun k=>decide (k ∈ ks))):=(List.perm_ext_iff_of_nodup (hnd _ hk) (hnd _ hf)).2 (fun a=>by
  rw [List.mem_filter,decide_eq_true_eq]
  exact ⟨fun h=>⟨hsub a h,h⟩,fun h=>h.2⟩)
 have e:ks = os.filter (fun k=>decide (k ∈ ks)):=List.Perm.eq_of_pairwise (fun a b _ _ h1 h2=>by omega) hk hf hp
 have key:∀ os:List Int,(∀ k ∈ os,k ∉ ks→F k = [])→(os.filter (fun k=>decide (k ∈ ks))).flatMap F = os.flatMap F:=by
  intro os
  induction os with
  | nil=>intro _;rfl
  | cons a r ih=>
   intro h
   have ih':=ih (fun k hk=>h k (List.mem_cons_of_mem _ hk))
   by_cases ha:a ∈ ks
   ·rw [List.filter_cons_of_pos (by simpa using ha),List.flatMap_cons,List.flatMap_cons,ih']
   ·rw [List.filter_cons_of_neg (by simpa using ha),List.flatMap_cons,h a (List.mem_cons_self ..) ha,List.nil_append,ih']
 rw [← key os hF,← e]
end Go.Proofs.YtdadnapfecmmdaaGreat.P
namespace Go.Proofs.YtdadnapfecmmdaaGreat.P
set_option linter.unusedVariables false
set_option linter.unusedSimpArgs false
open Go.RowKit Go.Proofs.YtdadnapfecmmdaaGreatW.PrintWords Go.Proofs.YtdadnapfecmmdaaGreatW.PrintLast Go.Proofs.YtdadnapfecmmdaaGreatW.PrintMore
open Go.Proofs.YtdadnapfecmmdaaGreat.Hm
def cAt (l:List S51) (j:Nat):Int:=cntName (cntMap (l.drop j)) (nm4 j)
theorem cAt_up {c:Cfg} (hS:Sys c) (j:Nat) (hj:j < c.sv.length):∀ e k,e + k = j→cntName (cntMap (c.sv.drop k)) (nm4 j) = cAt c.sv j:=by
 have h4:=hS.n4
 intro e
 induction e with
 | zero=>intro k h;obtain rfl:k = j:=(by omega);rfl
 | succ e ih=>
  intro k h
  rw [cntMap_step _ k (by omega),hS.name k (by omega)]
  unfold cntName
  rw [mget_put_other _ _ _ _ (fun e=>by have:=nm4_inj _ _ (by omega) (by omega) e;omega)]
  exact ih (k + 1) (by omega)
theorem cAt_eq {c:Cfg} (hS:Sys c) (j:Nat) (hj:j < c.sv.length):cAt c.sv j = cntSum (cntMap (c.sv.drop (j + 1))) c.sv[j].f5 1:=by
 unfold cAt
 rw [cntMap_step _ j hj,hS.name j hj]
 unfold cntName
 rw [mget_put_same]
 rfl
theorem cAt_le {c:Cfg} (hS:Sys c) (j:Nat):0 ≤ cAt c.sv j∧cAt c.sv j ≤ 160:=by
 have h4:=hS.n4
 have h:=cntMap_le (c.sv.drop j) (fun x hx=>by
  obtain ⟨i,hi,rfl⟩:=List.getElem_of_mem (List.mem_of_mem_drop hx)
  exact hS.clen i hi) (by simp;omega) (nm4 j)
 have hb:=bnd_range (c.sv.drop j).length (by simp;omega)
 unfold cAt
 omega
theorem callsI_len (seed delay t i:Int) (x:S51) (ver:ByteArray) (m:List (ByteArray × Int)) (rec:ByteArray→Int→Int→Nat→Res):∀ (cl:List ByteArray) (y:Int) (fl:Bool) (len:Nat) (n:Int),
  (∀ nm ∈ cl,0 ≤ cntName m nm∧cntName m nm ≤ 160∧∀ parent x len,((rec nm parent x len).2.2.length:Int) = cntName m nm)→0 ≤ n→n + 161 * cl.length ≤ 10000→
  n + (callsI seed delay t i x ver rec cl y fl len).2.2.length = cntSum m cl n:=by
 intro cl
 induction cl with
 | nil=>intro y fl len n _ _ _;simp [callsI,cntSum]
 | cons nm r ih=>
  intro y fl len n h h0 h1
  obtain ⟨a0,a1,a2⟩:=h nm (by simp)
  simp only [List.length_cons] at h1
  have e:wrap64 (n + wrap64 (1 + cntName m nm)) = n + (1 + cntName m nm):=by unfold wrap64;omega
  simp only [callsI,cntSum]
  have:=a2 ((len:Int) + 1) (y + delay + rollV seed t ((len:Int) + 1) 2 % (delay + 1)) (len + 1)
  generalize rec nm ((len:Int) + 1) (y + delay + rollV seed t ((len:Int) + 1) 2 % (delay + 1)) (len + 1) = q at this ⊢
  have hh:=ih (q.1 + delay + rollV seed t ((len:Int) + 1) 3 % (delay + 1)) (fl || q.2.1) (len + 1 + q.2.2.length) (n + (1 + cntName m nm)) (fun k hk=>h k (by simp [hk])) (by omega) (by omega)
  rw [e,← hh]
  simp only [List.length_cons,List.length_append]
  omega
theorem serveI_len {c:Cfg} (hS:Sys c) (slot t:Int):∀ d j,j < c.sv.length→c.sv.length ≤ j + d→∀ parent x len,((serveI c slot t d (nm4 j) parent x len).2.2.length:Int) = cAt c.sv j:=by
 intro d
 induction d with
 | zero=>intro j h1 h2;omega
 | succ d ih=>
  intro j h1 h2 parent x len
  have hsv:rd_T51 c.sv (svIdx c.sv (nm4 j)) = c.sv[j]:=by rw [hS.idx j h1,rd_T51_get _ j h1]
  have h5:=hS.clen j h1
  have hc:=callsI_len c.seed c.delay t ((len:Int) + 1) c.sv[j] (actV c.ch c.sv[j].f0 slot).2.2.2.2.2.1 (cntMap (c.sv.drop (j + 1))) (serveI c slot t d) c.sv[j].f5 (x + (workV c slot t c.sv[j] len).1 / 2) (decide (rollV c.seed t ((len:Int) + 1) 4 % 1000000 < (workV c slot t c.sv[j] len).2)) (len + 1) 1 (fun nm hnm=>by
   obtain ⟨i,i1,i2,rfl⟩:=hS.calls j h1 nm hnm
   rw [cAt_up hS i i2 (i - (j + 1)) (j + 1) (by omega)]
   have:=cAt_le hS i
   exact ⟨this.1,this.2,ih i i2 (by omega)⟩) (by omega) (by omega)
  rw [cAt_eq hS j h1,← hc]
  simp only [serveI]
  rw [hsv]
  simp only [List.length_cons]
  omega
theorem traceI_len {c:Cfg} (hS:Sys c) (slot k:Int):((traceI c slot k).length:Int) = cntOf c.sv:=by
 have h0:=hS.n0
 unfold traceI
 rw [serveI_len hS slot (traceId slot k) c.sv.length 0 (by omega) (by omega)]
 unfold cntOf cAt
 rw [List.drop_zero,show (0:Int) = ((0:Nat):Int) from rfl,rd_T51_get _ 0 (by omega),hS.name 0 (by omega)]
theorem tracesI_spans {c:Cfg} (hS:Sys c) (x:Tr) (h:x ∈ tracesI c id):(x.l.length:Int) = cntOf c.sv∧x.l ≠ []:=by
 obtain ⟨s,k,_,_,_,_,rfl⟩:=tracesI_mem c id x h
 simp only [List.length_map,List.map_id_fun,id]
 obtain ⟨a,r,e,_⟩:=traceI_cons c hS s k
 exact ⟨traceI_len hS s k,by rw [e];simp⟩
theorem tracesI_len (c:Cfg) (h1:c.sfrom ≤ c.sto) (h2:0 ≤ c.per):((tracesI c id).length:Int) = c.per * (c.sto - c.sfrom):=by
 have e:(tracesI c id).length = (c.sto - c.sfrom).toNat * c.per.toNat:=by
  unfold tracesI
  generalize (c.sto - c.sfrom).toNat = n
  induction n with
  | zero=>simp
  | succ n ih=>
   rw [List.range_succ,List.flatMap_append,List.length_append,ih,Nat.succ_mul]
   simp [slotTr]
 rw [e,Int.natCast_mul,Int.toNat_of_nonneg (by omega),Int.toNat_of_nonneg h2,Int.mul_comm]
theorem tracesI_shift (c:Cfg) (f:Sp→Sp):tracesI c f = (tracesI c id).map fun x=>⟨x.id,x.l.map f⟩:=by
 unfold tracesI
 rw [List.map_flatMap]
 congr 1
 funext i
 unfold slotTr
 rw [List.map_map]
 congr 1
 funext k
 simp
end Go.Proofs.YtdadnapfecmmdaaGreat.P
namespace Go.Proofs.YtdadnapfecmmdaaGreat.P
set_option linter.unusedVariables false
set_option linter.unusedSimpArgs false
theorem callsI_clk (K:List Int) (seed delay t i:Int) (x:S51) (hx:x.f1 ∈ K) (ver:ByteArray) (rec:ByteArray→Int→Int→Nat→Res):∀ (cl:List ByteArray) (y:Int) (fl:Bool) (len:Nat),
  (∀ nm ∈ cl,∀ parent x len,∀ s ∈ (rec nm parent x len).2.2,s.clk ∈ K)→∀ s ∈ (callsI seed delay t i x ver rec cl y fl len).2.2,s.clk ∈ K:=by
 intro cl
 induction cl with
 | nil=>intro y fl len _ s hs;simp [callsI] at hs
 | cons nm r ih=>
  intro y fl len h s hs
  simp only [callsI] at hs
  rcases List.mem_cons.mp hs with rfl | hs
  ·exact hx
  ·rcases List.mem_append.mp hs with hs | hs
   ·exact h nm (by simp) _ _ _ s hs
   ·exact ih _ _ _ (fun k hk=>h k (by simp [hk])) s hs
theorem serveI_clk {c:Cfg} (hS:Sys c) (slot t:Int):∀ d j,j < c.sv.length→∀ parent x len,∀ s ∈ (serveI c slot t d (nm4 j) parent x len).2.2,s.clk ∈ c.sv.map (·.f1):=by
 intro d
 induction d with
 | zero=>intro j _ parent x len s hs;simp [serveI] at hs
 | succ d ih=>
  intro j h1 parent x len s hs
  have hsv:rd_T51 c.sv (svIdx c.sv (nm4 j)) = c.sv[j]:=by rw [hS.idx j h1,rd_T51_get _ j h1]
  have hm:c.sv[j].f1 ∈ c.sv.map (·.f1):=List.mem_map_of_mem (List.getElem_mem h1)
  simp only [serveI] at hs
  rw [hsv] at hs
  rcases List.mem_cons.mp hs with rfl | hs
  ·exact hm
  ·refine callsI_clk _ _ _ _ _ _ hm _ _ _ _ _ _ (fun nm hnm=>?_) s hs
   obtain ⟨i,i1,i2,rfl⟩:=hS.calls j h1 nm hnm
   exact ih i i2
theorem tracesI_clk {c:Cfg} (hS:Sys c) (x:Tr) (h:x ∈ tracesI c (shiftSp c.off)) (s:Sp) (hs:s ∈ x.l):s.clk ∈ c.sv.map (·.f1):=by
 obtain ⟨a,k,_,_,_,_,rfl⟩:=tracesI_mem c _ x h
 obtain ⟨s0,h0,rfl⟩:=List.mem_map.mp hs
 exact serveI_clk hS a (traceId a k) c.sv.length 0 hS.n0 _ _ _ s0 h0
theorem spansOf_none {c:Cfg} (hS:Sys c) (k:Int) (h:k ∉ c.sv.map (·.f1)):spansOf (tracesI c (shiftSp c.off)) k = []:=by
 unfold spansOf allSp
 rw [List.filter_eq_nil_iff]
 intro s hs hk
 obtain ⟨x,hx,hsx⟩:=List.mem_flatMap.mp hs
 have e:s.clk = k:=by simpa using hk
 rw [← e] at h
 exact h (tracesI_clk hS x hx s hsx)
theorem sent_same {c:Cfg} (hS:Sys c) (ho:(c.off.map (·.f0)).Pairwise (· < ·)) (hc:∀ k ∈ c.sv.map (·.f1),k ∈ c.off.map (·.f0)) (n:Nat):
  sentL n (tracesI c (shiftSp c.off)) (cmpI ((c.sv.map (·.f1)).mergeSort fun x y=>decide (x ≤ y))) = sentL n (tracesI c (shiftSp c.off)) (c.off.map (·.f0)):=by
 have hs:((c.sv.map (·.f1)).mergeSort fun x y=>decide (x ≤ y)).Pairwise (· ≤ ·):=
  (List.pairwise_mergeSort (le:=fun x y:Int=>decide (x ≤ y)) (fun a b d h1 h2=>by simp only [decide_eq_true_eq] at *;omega) (fun a b=>by simp only [Bool.or_eq_true,decide_eq_true_eq];omega) _).imp (fun h=>by simpa using h)
 have hm:∀ x,x ∈ cmpI ((c.sv.map (·.f1)).mergeSort fun x y=>decide (x ≤ y)) ↔ x ∈ c.sv.map (·.f1):=fun x=>(cmp_mem _ hs x).trans List.mem_mergeSort
 refine flat_same ho (cmp_lt _ hs) (fun k hk=>hc k ((hm k).1 hk)) (fun k _ hk=>?_)
 rw [spansOf_none hS k (fun h=>hk ((hm k).2 h)),frs_nil]
end Go.Proofs.YtdadnapfecmmdaaGreat.P
namespace Go.Proofs.YtdadnapfecmmdaaGreat.P
set_option linter.unusedVariables false
set_option linter.unusedSimpArgs false
open Go.RowKit Go.Proofs.YtdadnapfecmmdaaGreatW.PrintWords Go.Proofs.YtdadnapfecmmdaaGreatW.PrintLast Go.Proofs.YtdadnapfecmmdaaGreatW.PrintMore
attribute [local go_sem] Oper.semAt_some
def noDefer (ops:Array Oper):Bool:=ops.all fun o=>match o.op with | .defer _=>false | _=>true
theorem noDefer_spec {ops:Array Oper} (h:noDefer ops = true) {i:Nat} {o:Oper} (ho:ops[i]? = some o):∀ c,o.op ≠ .defer c:=fun c hc=>by
 unfold noDefer at h
 rw [Array.all_eq_true] at h
 obtain ⟨hi,rfl⟩:=Array.getElem?_eq_some_iff.1 ho
 have:=h i hi
 rw [hc] at this
 cases this
theorem rowsIn_wide {n:Nat} {P:Program} {row:String} {args:Array Value} {w:World} {R:Value→World→Prop} (h:Rows P row args w R) (l:Nat):RowsIn (Fence.wide.inRound l) n P row args w R:=
 fun c cs _=>let ⟨v,w',r,s⟩:=h c cs;⟨v,w',r,stepsIn_wide.2 s⟩
section
variable {P:Program} {md:Region.Mode} {ops:Array Oper} {Q:Exit→Go.Act→World→Prop} {l n:Nat}
theorem wpOp_inRound (hnd:noDefer ops = true) (hlo:¬ LetsOut Q) {i:Nat} {K:Go.Act→World→Prop} {a:Go.Act} {w:World} (h:wpOp P ops Q i K a w):wpOpIn (Fence.wide.inRound l) n P ops Q i K a w:=by
 unfold wpOp at h
 unfold wpOpIn
 split
 ·simpa [*] using h
 ·rename_i o ho
  simp only [ho] at h
  split
  ·rename_i hw
   simp only [hw,if_true] at h
   rcases h with h | h
   ·refine ⟨fun _ _=>trivial,?_⟩
    unfold Oper.wp at h
    have e:Oper.semAt (Fence.wide.inRound l).round a.eval o = execOp a.eval o:=Oper.semAt_some l a.eval o (noDefer_spec hnd ho)
    rw [e]
    generalize (execOp a.eval o).run P w = r at *
    cases r with
    | ok x w'=>
     cases x <;> simp only [Oper.upon] at h <;> simp only [Oper.uponIn]
     case value v=>exact h
     case skip=>exact h
     case defer d=>exact h
     case enter f args=>exact ⟨fun h0=>by simp [Fence.wide,Fence.inRound] at h0,CallsIn.inRound l (callsIn_wide.2 h)⟩
     case row row args=>exact ⟨fun h0=>by simp [Fence.wide,Fence.inRound] at h0,rowsIn_wide h l⟩
    | halt x w'=>cases x <;> simp only [Oper.upon] at h <;> simp only [Oper.uponIn] <;> exact h
   ·exact absurd h.2 hlo
  ·rename_i hw
   simp only [hw] at h
   exact ⟨fun _ _=>trivial,h⟩
theorem wpAny_inRound (hnd:noDefer ops = true) (hlo:¬ LetsOut Q):∀ (fuel:Nat) (listed:Array Bool) (a:Go.Act) (w:World),wpAny P md ops Q fuel listed a w→wpAnyIn (Fence.wide.inRound l) n P md ops Q fuel listed a w
 | 0,_,_,_,h=>h
 | fuel + 1,listed,a,w,h=>⟨h.1,fun i hi=>wpOpIn_mono (fun a' w' h'=>wpAny_inRound hnd hlo fuel _ a' w' h') (wpOp_inRound hnd hlo (h.2 i hi))⟩
variable {S:World→Prop} {ds:List Nat}
theorem startIn_ {id k:Nat} {a:Go.Act} {w:World} (hnd:noDefer ops = true) (hlo:¬ LetsOut Q) (lit:Array Bool) (hm:P.follows .mixedOrders = true) (hn:ops.size = k) (hl:Array.replicate k false = lit) (hS:S w.drew)
  (h:S w.drew→wpAnyLast P .any ops Q S ds k lit a w.drew):(Code.region id ops true).wpIn (Fence.wide.inRound l) n P Q a w:=by
 subst hn
 subst hl
 exact wpIn_region_any hm (wpAny_inRound hnd hlo _ _ _ _ (wpAny_of_last _ _ _ _ (h hS)))
end
def Marks (b:Nat):Nat→List Deferred→World→Prop
 | _,[],_=>True
 | top,d::ds,W=>∃ D,d = { target:=.collected D,args:=#[] }∧b ≤ D∧D < top∧W.heap[D]? = some (.deferred (some []))∧Marks b D ds W
structure ShutD (b:Nat) (W W':World):Prop where
 cells:∀ (i:Nat) (cs:Array Value) (t:TypeId) (fr:Nat × Nat),W.heap[i]? = some (Obj.cells cs t fr)→W'.heap[i]? = W.heap[i]?
 size:W'.heap.size = W.heap.size
 bel:Below b W W'
theorem Marks.keep {b:Nat} {W W':World} (hk:∀ D,b ≤ D→W.heap[D]? = some (.deferred (some []))→W'.heap[D]? = some (.deferred (some []))):∀ {ds:List Deferred} {top:Nat},Marks b top ds W→Marks b top ds W'
 | [],_,_=>trivial
 | _::_,_,⟨D,h1,h2,h3,h4,h5⟩=>⟨D,h1,h2,h3,hk D h2 h4,h5.keep hk⟩
theorem Marks.up {b:Nat} {W:World}:∀ {ds:List Deferred} {top top':Nat},Marks b top ds W→top ≤ top'→Marks b top' ds W
 | [],_,_,_,_=>trivial
 | _::_,_,_,⟨D,h1,h2,h3,h4,h5⟩,ht=>⟨D,h1,h2,by omega,h4,h5⟩
theorem Marks.low {b D:Nat} {W:World}:∀ {ds:List Deferred} {top:Nat},Marks b top ds W→top ≤ D→Marks b top ds (W.putObj D (.deferred none))
 | [],_,_,_=>trivial
 | _::_,_,⟨E,h1,h2,h3,h4,h5⟩,ht=>⟨E,h1,h2,h3,(World.putObj_heap_other (by omega)).trans h4,h5.low (by omega)⟩
theorem Marks.leaves {P:Program} {fn:Func} {tmps:Array Value} {R:Ending→World→Prop} {n b:Nat}:∀ (ds:List Deferred) (top:Nat) (W:World),Marks b top ds W→(∀ W',ShutD b W W'→∃ v,(results fn tmps).run P W' = .ok v W'∧R (.returned v) W')→LeavesInM Fence.wide n P fn tmps R ds .returning W
 | [],top,W,_,h=>by
  obtain ⟨v,h1,h2⟩:=h W ⟨fun _ _ _ _ _=>rfl,rfl,Below.refl _ _⟩
  exact ⟨v,h1,h2⟩
 | d::ds,top,W,⟨D,h1,h2,h3,h4,h5⟩,h=>by
  subst h1
  refine ⟨by simp,.inl ⟨D,_,rfl,run_takeDeferred h4,?_⟩⟩
  have hlt:D < W.heap.size:=(Array.getElem?_eq_some_iff.1 h4).1
  refine Marks.leaves ds D _ (h5.low (Nat.le_refl _)) (fun W' hs=>h W' ⟨fun i cs t fr hc=>?_,?_,?_⟩)
  ·have hne:i ≠ D:=fun e=>by subst e;rw [h4] at hc;cases hc
   have e1:(W.putObj D (.deferred none)).heap[i]? = W.heap[i]?:=World.putObj_heap_other hne
   rw [hs.cells i cs t fr (e1.trans hc),e1]
  ·rw [hs.size];unfold World.putObj;simp
  ·exact ((Below.refl b W).grown (grownBy_putObj' W D _) (by omega) (fun k e=>by cases e;omega)).trans hs.bel
theorem own_shut {b:Nat} {W W':World} {base sz n:Nat} {e:TypeId} {v:Value} {xs:List Value} (h:W.ownsRow base e sz v n xs) (hs:ShutD b W W'):W'.ownsRow base e sz v n xs:=own_keep h (fun g cur hg=>hs.cells g cur e (0,0) hg)
theorem spc_one' (l:List Sp):∀ u ∈ spc l,u.oneCell' = true:=by
 induction l with
 | nil=>intro u hu;cases hu
 | cons a r ih=>
  intro u hu
  rcases List.mem_append.mp (show u ∈ a.cells ++ spc r from hu) with h | h
  ·unfold Sp.cells at h
   simp only [List.mem_cons,List.not_mem_nil,or_false] at h
   rcases h with rfl | rfl | rfl | rfl | rfl | rfl | rfl | rfl | rfl | rfl | rfl | rfl | rfl | rfl <;> rfl
  ·exact ih u h
set_option maxHeartbeats 2000000 in
set_option maxRecDepth 100000 in
theorem clone_own (ad:Addr) (c:Nat) (l:List Sp) (w:World) (hC:∀ i u,(spc l)[i]? = some u→w.cell? (ad.add i) = some u) (hl:l.length ≤ 1000):
  Calls Tryz.prog 17 #[.slice (some ad) l.length c] w fun e w'=>∃ v,e = .returned v∧w'.ownsRow w.heap.size 74 14 v l.length (spc l)∧Below w.heap.size w w':=by
 have q49:∀ (w:World) (a:Option Addr) (n c n' c':Nat),(binOp .eql 68 (.slice a n c) (.slice none n' c')).run Tryz.prog w = .ok (.bool a.isNone) w:=fun w a n c n' c'=>Lib.run_eql_slice_nil w _ _ a n c n' c' Tryz.underlying68
 obtain ⟨i0,hi0,hz⟩:=Option.map_eq_some_iff.1 info74
 simp only [Prod.mk.injEq] at hz
 obtain ⟨hz0,hz1,hz2⟩:=hz
 have HC:=Aside0.mk hC
 have HI:=Aside0.mk hi0
 have HZ0:=Aside0.mk hz0
 have HZ1:=Aside0.mk hz1
 have HZ2:=Aside0.mk hz2
 clear hC hi0 hz0 hz1 hz2
 go_enter Tryz.func17,Tryz.ntmps17
 go_wp2_with (at_builtin;refine wpList_append_own _ rfl _ _ 68 rfl w.heap.size 74 i0 _ 14 168 Tryz.underlying68 HI.out HZ0.out HZ1.out HZ2.out rfl (by decide) _ _ _ rfl (World.ownsRow_made w #[] 0 (Nat.le_refl _) (Nat.zero_le _) (by simp)) ad l.length c (spc l) rfl ?qc1 ?qc2 ?qc3 ?qc4 ?qc5 ?qc6 ?_)
 case qc1=>exact spc_len l
 case qc2=>intro j u hj;exact Lib.cell?_alloc_some _ (HC.out j u hj)
 case qc3=>exact spc_one' l
 case qc4=>rw [Nat.zero_add];have:(1000:Nat) ≤ maxLen:=(by decide);omega
 case qc5=>omega
 case qc6=>simp
 intro v' w1 hown hgrow hnil
 have hbw:Below w.heap.size w w1:=((Below.refl _ w).alloc (Nat.le_refl _) _).grown hgrow (by simp) (by intro k hk;simp [Value.ownBlock] at hk;omega)
 have HO:=Aside0.mk hown
 clear hown hgrow hnil
 obtain ⟨A1,c1,rfl⟩:=own_slice HO.out
 go_wp2
 go_ret
 refine ⟨_,rfl,?_,hbw⟩
 have h:=HO.out
 simp only [Nat.zero_add,List.nil_append] at h ⊢
 exact h
theorem cut_three {P:Program} (t e:TypeId) (k1 k2 k3:IntKind) {i:TypeInfo} (ht:P.underlying t = some (.slice e)) (hi:P.info? e = some i) (size:Nat) (hsz:i.size = size) (A:Option Addr) (n c:Nat) (a b d:Int) (h0:0 ≤ a) (h1:a ≤ b) (h2:b ≤ d) (h3:d ≤ c):
  ∀ W:World,(Instr.slice t (.slice A n c) (some (.int k1 a)) (some (.int k2 b)) (some (.int k3 d))).run P W = .ok (.slice (if d.toNat = a.toNat then A else A.map (·.add (a.toNat * size))) (b.toNat - a.toNat) (d.toNat - a.toNat)) W:=by
 intro W
 have hel:P.elem t = e:=by simp [Program.elem,ht]
 have hu:P.underlying t = some (.slice (P.elem t)):=by rw [hel];exact ht
 rw [run_slice_lhm W t A n c hu k1 k2 k3 a b d h0 h1 h2 h3,hel]
 simp [sizeOf,typeInfo,hi,hsz,sliced,Result.andThen]
set_option maxHeartbeats 1000000 in
theorem chunk_calls (A:Option Addr) (n c:Nat) (k:Int) (hk:1 ≤ k) (w:World):
  Calls Tryz.prog 16 #[.slice A n c,.int .i64 k] w fun e w'=>e = .returned (.func (.func 35) #[] #[.pointer (some ⟨w.heap.size,0,none⟩),.pointer (some ⟨w.heap.size + 1,0,none⟩)])∧w' = (w.alloc (.cells #[.slice A n c] 68)).alloc (.cells #[.int .i64 k] 3):=by
 have h1:decide (k < 1) = false:=decide_eq_false (by omega)
 have h2:¬ k < 1:=by omega
 go_enter Tryz.func16,Tryz.ntmps16
 go_wp2
 go_ret
 exact ⟨rfl,rfl⟩
def ckT.T3:Bool × List (List Nat × List Nat):=(true,[([],[]),([],[]),([],[]),([1,2],[1,2]),([3],[3]),([0,4],[0,4]),([5,0,1,2,3,4,5],[5])])
def ckT.B3:List Nat:=[0,0,0,6,14,31,63]
theorem ckT.tab3:rtab .any (opsOf Tryz.f35 3) = ckT.T3:=by kernel_rfl
theorem ckT.bits3:waitsOk ckT.T3.2 ckT.B3 = true:=by kernel_rfl
def KpC (Bs Bn:Nat) (W W':World):Prop:=W'.cell? ⟨Bs,0,none⟩ = W.cell? ⟨Bs,0,none⟩∧W'.cell? ⟨Bn,0,none⟩ = W.cell? ⟨Bn,0,none⟩
abbrev CkI (n k:Nat):={ j:Nat // j * k < n }
def ckV (r n k:Nat) (x:CkI n k):Array Value:=#[.slice (some ⟨r,x.1 * k * 14,none⟩) (min k (n - x.1 * k)) (min k (n - x.1 * k))]
theorem grown_drew (W:World):W.grownBy W.drew none:=⟨rfl,rfl,rfl,Nat.le_refl _,fun _ _ _=>rfl⟩
set_option maxHeartbeats 4000000 in
set_option maxRecDepth 100000 in
theorem chunk_in (m l Bs Bn r n cap k base:Nat) (hm:1 ≤ m) (hk:1 ≤ k) (hk2:k ≤ 64) (hn2:n ≤ 2000000) (hcap:n ≤ cap) (J Jx:List (CkI n k)→World→Prop) (hJ:AbidesFrom base J)
  (hY:∀ pre (x:CkI n k) W1,J pre W1→pre.length < n + 1→YieldAt Fence.wide (m - 1) Tryz.prog l (ckV r n k x) W1 fun e W'=>(e = .returned (.bool true)∧J (pre ++ [x]) W'∧KpC Bs Bn W1 W') ∨ (e = .returned (.bool false)∧Jx (pre ++ [x]) W'))
  (W:World) (hBs:W.cell? ⟨Bs,0,none⟩ = some (.slice (some ⟨r,0,none⟩) n cap)) (hBn:W.cell? ⟨Bn,0,none⟩ = some (.int .i64 (k:Int))) (h0:J [] W):
  CallsIn Fence.wide m Tryz.prog 35 #[.func (.yield l) #[] #[],.pointer (some ⟨Bs,0,none⟩),.pointer (some ⟨Bn,0,none⟩)] W fun e W'=>(∃ v,e = .returned v)∧((∃ ys:List (CkI n k),(∃ q,n ≤ q * k∧ys.map (·.1) = List.range q)∧J ys W') ∨ (∃ pre:List (CkI n k),True∧Jx pre W')):=by
 have HJA:=Aside0.mk hJ
 have HY:=Aside0.mk hY
 have HJ0:=Aside0.mk h0
 clear hJ hY h0
 obtain ⟨i0,hi0,_,hsz,_⟩:=info_parts info74
 have HI:=Aside0.mk hi0
 have HZ:=Aside0.mk hsz
 clear hi0 hsz
 refine callsIn_of_wp Tryz.func35 rfl trivial ?_ rfl
 simp only [Tryz.ntmps35,List.size_toArray,List.length_cons,List.length_nil,Nat.reduceAdd,Nat.reduceSub,Array.replicate_succ,Array.replicate_zero,List.push_toArray,List.append_toArray,List.nil_append,List.cons_append]
 gi_wp2
 gi_loopw [4] (fun s wr=>∃ (j:Nat) (pre:List (CkI n k)),s = .int .i64 ((j * k:Nat):Int)∧Aside0 (pre.map (·.1) = List.range j)∧j * k ≤ n + k∧Aside0 (J pre wr)∧wr.cell? ⟨Bs,0,none⟩ = some (.slice (some ⟨r,0,none⟩) n cap)∧wr.cell? ⟨Bn,0,none⟩ = some (.int .i64 (k:Int))) (fun s _=>n + k - (intOf s).toNat)
 case atStart=>exact ⟨0,[],by simp,⟨rfl⟩,by omega,HJ0,hBs,hBn⟩
 case round=>
  clear hBs hBn HJ0
  obtain ⟨j,pre,rfl,HP,hjk,HJ,q0,q1⟩:=hrel
  have hpl:pre.length = j:=by have:=congrArg List.length HP.out;simpa using this
  by_cases hlt:j * k < n
  ·obtain ⟨x,hx⟩:∃ x:CkI n k,x = ⟨j,hlt⟩:=⟨_,rfl⟩
   have hx1:x.1 = j:=by rw [hx]
   have HP2:Aside0 ((pre ++ [x]).map (·.1) = List.range (j + 1)):=⟨by rw [List.map_append,HP.out,List.range_succ,List.map_cons,List.map_nil,hx1]⟩
   clear hx HP
   obtain ⟨fn,tmps,assign,body,hy,hR⟩:=HY.out pre x wr.drew (HJA.out _ _ _ none HJ.out (grown_drew wr) (fun _ h=>by cases h)) (by rw [hpl];exact Nat.lt_succ_of_le (Nat.le_trans (Nat.le_mul_of_pos_right j hk) (Nat.le_of_lt hlt)))
   unfold ckV at hy
   rw [hx1] at hy
   clear hx1 hpl
   have hsucc:(j + 1) * k = j * k + k:=Nat.succ_mul j k
   generalize hjq:(j + 1) * k = jq at hsucc
   generalize j * k = i at hjk hlt hy hsucc ⊢
   obtain ⟨e,he⟩:∃ e,e = min k (n - i):=⟨_,rfl⟩
   rw [← he] at hy
   have he0:0 < e:=by omega
   have he1:i + e ≤ n:=by omega
   have HE:=Aside0.mk he
   clear he
   have HCF:=cut_from (P:=Tryz.prog) 68 74 .i64 Tryz.underlying68 HI.out 14 HZ.out (some ⟨r,0,none⟩) n cap (i:Int) (by omega) (by omega)
   have HCT:=cut_three (P:=Tryz.prog) 68 74 .i64 .i64 .i64 Tryz.underlying68 HI.out 14 HZ.out (some ⟨r,0,none⟩) n cap (i:Int) ((i:Int) + (e:Int)) ((i:Int) + (e:Int)) (by omega) (by omega) (by omega) (by omega)
   have hz0:(i:Int) < (n:Int):=by omega
   have sie:IntKind.i64.wrap ((i:Int) + (e:Int)) = (i:Int) + (e:Int):=IntWalk.i64_in _ (by omega)
   have sik:IntKind.i64.wrap ((i:Int) + (k:Int)) = (i:Int) + (k:Int):=IntWalk.i64_in _ (by omega)
   rw [Int.toNat_natCast,if_neg (by omega),Option.map_some] at HCF
   rw [show ((i:Int) + (e:Int)).toNat = i + e from by omega,Int.toNat_natCast,if_neg (by omega),Option.map_some,show i + e - i = e from by omega] at HCT
   have HADD:(⟨r,0,none⟩:Addr).add (i * 14) = ⟨r,i * 14,none⟩:=by
    unfold Addr.add
    simp only [Nat.zero_add]
    split
    ·rename_i h;rw [h]
    ·rfl
   rw [HADD] at HCF HCT
   clear HADD
   gi_wp2_with fail
   have HJD:=Aside0.mk (HJA.out _ _ _ none HJ.out (grown_drew wr) (fun _ h=>by cases h))
   refine wpIn_wide.2 ?_
   refine start_ (n:=7) (S:=fun w'=>Below wr.heap.size wr w') (ds:=[]) (bq 7 0) (by kernel_rfl) rfl rfl (Below.refl _ _).drew (fun hHeld=>?_)
   refine with_tabW ckT.tab3 ckT.bits3 (fun HT_ HW_=>?_)
   generalize wr.drew = wd at hHeld HJD hR hy ⊢
   refine tk_ 0 (some 13) (bq 7 1) HT_ HW_ rfl rfl hHeld ?_ (by intro w' hS;replace q1:=below_at hS q1;go_simp;with_reducible rfl)
   refine tk_ 1 (some 14) (bq 7 3) HT_ HW_ rfl rfl hHeld ?_ (by intro w' hS;replace q0:=below_at hS q0;go_simp;with_reducible rfl)
   refine pu_ 2 (some 15) (bq 7 7) HT_ rfl rfl ?_
   refine pu_ 3 (some 16) (bq 7 15) HT_ rfl rfl ?_
   refine pu_ 4 (some 17) (bq 7 31) HT_ rfl rfl ?_
   refine pure_ (i:=5) (N:=some 18) (v:=.int .i64 (e:Int)) (a':=?_) (bq 7 63) rfl rfl (any_of HT_.out (by kernel_rfl)) (fun _ _ _ h=>h) (Or.inl ⟨by rfl,?_⟩) ?_ ?_
   ·intro w'
    clear hR hy HCF HCT
    go_simp
    rw [HE.out]
    split <;> omega
   rotate_left
   ·simp only [Act.put,List.setIfInBounds_toArray,List.set_cons_zero,List.set_cons_succ,i64_w,i32_w]
    rfl
   refine pu_ 6 (some 5) (bq 7 127) HT_ rfl rfl ?_
   refine done_ (done_of HT_.out (by kernel_rfl)) ?_
   replace q0:=below_at hHeld q0
   replace q1:=below_at hHeld q1
   have HQ:=Aside0.mk (And.intro q0 q1)
   gi_wp2_with fail
   refine hR.mono ?_
   clear hR hy HCF HCT
   rintro e3 W3 (⟨rfl,hJ3,hk3⟩ | ⟨rfl,hJx3⟩)
   ·have p0:=hk3.1.trans HQ.out.1
    have p1:=hk3.2.trans HQ.out.2
    have HJ3:=Aside0.mk hJ3
    clear q0 q1 hk3 hJ3 HJ HJD hHeld
    gi_wp2_with fail
    go_roundw
    case rel=>exact ⟨j + 1,pre ++ [x],by first | (rw [hjq,hsucc];first | rfl | go_num),HP2,by rw [hjq];omega,HJ3,p0,p1⟩
    case measure=>simp [intOf];omega
   ·gi_wp2_with fail
    refine bodyPost_ret (results_none rfl _ _ _) rfl ?_
    exact ⟨⟨_,rfl⟩,.inr ⟨pre ++ [x],trivial,hJx3⟩⟩
  ·generalize hjn:j * k = i at hjk hlt ⊢
   have hz0:¬ (i:Int) < (n:Int):=by omega
   have HF:=Aside0.mk hjn
   clear hjn
   gi_wp2_with fail
   go_end0
   exact ⟨⟨_,rfl⟩,.inl ⟨pre,⟨j,by rw [HF.out];omega,HP.out⟩,HJ.out⟩⟩
theorem chunk_stops (m Bs Bn r n cap k:Nat) (hm:1 ≤ m) (hk:1 ≤ k) (hk2:k ≤ 64) (hn2:n ≤ 2000000) (hcap:n ≤ cap) (w:World) (hb1:Bs < w.heap.size) (hb2:Bn < w.heap.size) (hBs:w.cell? ⟨Bs,0,none⟩ = some (.slice (some ⟨r,0,none⟩) n cap)) (hBn:w.cell? ⟨Bn,0,none⟩ = some (.int .i64 (k:Int))):
  SeqStopsK Fence.wide m Tryz.prog 35 #[.pointer (some ⟨Bs,0,none⟩),.pointer (some ⟨Bn,0,none⟩)] (ckV r n k) (KpC Bs Bn) (fun ys=>∃ q,n ≤ q * k∧ys.map (·.1) = List.range q) (fun _=>True) (n + 1) w:=fun l J Jx W hW hJ _ hY h0=>
 chunk_in m l Bs Bn r n cap k W.heap.size hm hk hk2 hn2 hcap J Jx hJ hY W ((hW.cell (p:=⟨Bs,0,none⟩) hb1).trans hBs) ((hW.cell (p:=⟨Bn,0,none⟩) hb2).trans hBn) h0
set_option maxHeartbeats 4000000 in
set_option maxRecDepth 100000 in
theorem chunk_in_nil (l Bs Bn k:Nat) (m:Nat) (J:List (CkI 0 k)→World→Prop) (W:World) (hBs:W.cell? ⟨Bs,0,none⟩ = some (.slice none 0 0)) (h0:J [] W):
  CallsIn Fence.wide m Tryz.prog 35 #[.func (.yield l) #[] #[],.pointer (some ⟨Bs,0,none⟩),.pointer (some ⟨Bn,0,none⟩)] W fun e W'=>(∃ v,e = .returned v)∧J [] W':=by
 refine callsIn_of_wp Tryz.func35 rfl trivial ?_ rfl
 simp only [Tryz.ntmps35,List.size_toArray,List.length_cons,List.length_nil,Nat.reduceAdd,Nat.reduceSub,Array.replicate_succ,Array.replicate_zero,List.push_toArray,List.append_toArray,List.nil_append,List.cons_append]
 have HJ:=Aside0.mk h0
 clear h0
 gi_wp2
 gi_loopw [4] (fun s wr=>s = .int .i64 0∧Aside0 (J [] wr)∧wr.cell? ⟨Bs,0,none⟩ = some (.slice none 0 0)) (fun _ _=>0)
 case atStart=>exact ⟨rfl,HJ,hBs⟩
 case round=>
  clear HJ hBs
  obtain ⟨rfl,HJ,q0⟩:=hrel
  gi_wp2
  go_end0
  exact ⟨⟨_,rfl⟩,HJ.out⟩
theorem chunk_stops_nil (m Bs Bn k:Nat) (w:World) (hb1:Bs < w.heap.size) (hBs:w.cell? ⟨Bs,0,none⟩ = some (.slice none 0 0)):
  SeqStopsK Fence.wide m Tryz.prog 35 #[.pointer (some ⟨Bs,0,none⟩),.pointer (some ⟨Bn,0,none⟩)] (ckV 0 0 k) (KpC Bs Bn) (fun ys=>∃ q,0 ≤ q * k∧ys.map (·.1) = List.range q) (fun _=>True) (0 + 1) w:=fun l J Jx W hW hJ _ hY h0=>
 (chunk_in_nil l Bs Bn k m J W ((hW.cell (p:=⟨Bs,0,none⟩) hb1).trans hBs) h0).mono fun e W' ⟨he,hj⟩=>⟨he,.inl ⟨[],⟨0,Nat.zero_le _,rfl⟩,hj⟩⟩
end Go.Proofs.YtdadnapfecmmdaaGreat.P
namespace Go.Proofs.YtdadnapfecmmdaaGreat.P
set_option linter.unusedVariables false
set_option linter.unusedSimpArgs false
open Go.RowKit Go.Proofs.YtdadnapfecmmdaaGreatW.PrintWords Go.Proofs.YtdadnapfecmmdaaGreatW.PrintLast Go.Proofs.YtdadnapfecmmdaaGreatW.PrintMore
theorem frM_len (k:Int) (n:Nat) (l:List Sp):∀ (out:List Fr) (seq:Int) (cur:List Sp),(frM k n l out seq cur).1.length ≤ out.length + l.length∧seq ≤ (frM k n l out seq cur).2.1∧(frM k n l out seq cur).2.1 ≤ seq + l.length:=by
 induction l with
 | nil=>intro out seq cur;simp [frM]
 | cons s r ih=>
  intro out seq cur
  simp only [frM,List.length_cons]
  split
  ·split
   ·have:=ih (out ++ [⟨k,seq,cur ++ [s]⟩]) (seq + 1) []
    simp only [List.length_append,List.length_cons,List.length_nil] at this
    omega
   ·have:=ih out seq (cur ++ [s]);omega
  ·have:=ih out seq cur;omega
theorem info81:(Tryz.prog.info? 81).map (fun i=>(i.zero,i.size,i.bytes)) = some (some (.agg #[(.int .i64 0),(.int .i64 0),(.slice none 0 0),(.slice none 0 0)]),4,64):=by kernel_rfl
theorem cells_one (s:Sp):∀ u ∈ s.cells,u.oneCell' = true:=by
 intro u hu
 simp only [Sp.cells,List.mem_cons,List.not_mem_nil,or_false] at hu
 rcases hu with rfl | rfl | rfl | rfl | rfl | rfl | rfl | rfl | rfl | rfl | rfl | rfl | rfl | rfl <;> rfl
theorem allSp_len (ts:List Tr) (h:∀ x ∈ ts,x.l.length ≤ 160):(allSp ts).length ≤ 160 * ts.length:=by
 unfold allSp
 induction ts with
 | nil=>simp
 | cons a r ih=>
  have h1:=h a (by simp)
  have h2:=ih (fun x hx=>h x (by simp [hx]))
  rw [List.flatMap_cons,List.length_append,List.length_cons]
  omega
theorem allSp_take (ts:List Tr) (k:Nat) (h:k < ts.length):allSp (ts.take (k + 1)) = allSp (ts.take k) ++ ts[k].l:=by
 unfold allSp
 rw [List.take_succ_eq_append_getElem h,List.flatMap_append]
 simp
theorem frM_end (k:Int) (n:Nat) (hn:0 < n) (l:List Sp) (out:List Fr) (out':List Fr) (seq:Int) (cur:List Sp) (h:frM k n l out 0 [] = (out',seq,cur)):(if cur.length = 0 then out' else out' ++ [⟨k,seq,cur⟩]) = out ++ frs k n 0 (l.filter fun s=>s.clk == k):=by
 have h2:=frM_eq k n hn l out 0 [] hn
 rw [h] at h2
 exact h2
structure MsSt (w W:World) (gf:Nat) (cfg:Array Value) (xsT:List (Tr × Value)) (vt:Value) (ag seq:Int) (cur:List Sp) (xs:List (Fr × Value)) (vo vf:Value) (B:Nat):Prop where
 out:W.ownsRow w.heap.size 81 4 vo xs.length (frc xs)
 ne:some gf ≠ vo.ownBlock
 f:W.ownsRow B 74 14 vf cur.length (spc cur)
 b0:w.heap.size ≤ B
 b1:B ≤ W.heap.size
 fs:RowsB W w.heap.size B (xs.map fun x=>(x.1.l,x.2))
 ts:RowsB W 0 B (xsT.map fun x=>(x.1.l,x.2))
 tr:W.ownsRow 0 70 3 vt xsT.length (trc xsT)
 g:W.heap[gf]? = some (.cells #[.int .i64 ag,.int .i64 seq,vf,.slice none 0 0] 81 (0,0))
 gge:w.heap.size < gf
 bel:Below w.heap.size w W
 cf:W.heap[w.heap.size]? = some (.cells cfg 36 (0,0))
section
variable {w W W1:World} {gf:Nat} {cfg:Array Value} {xsT:List (Tr × Value)} {vt:Value} {ag seq:Int} {cur:List Sp} {xs:List (Fr × Value)} {vo vf v1:Value} {B:Nat}
theorem MsSt.below (h:MsSt w W gf cfg xsT vt ag seq cur xs vo vf B) (hb:Below W.heap.size W W1):MsSt w W1 gf cfg xsT vt ag seq cur xs vo vf B:=
 ⟨pw_own_below h.out hb,h.ne,pw_own_below h.f hb,h.b0,Nat.le_trans h.b1 hb.size,h.fs.below hb,h.ts.below hb,pw_own_below h.tr hb,blk_below h.g hb,h.gge,below_step h.bel hb,blk_below h.cf hb⟩
theorem MsSt.append (h:MsSt w W gf cfg xsT vt ag seq cur xs vo vf B) (s:Sp) (ho:W1.ownsRow B 74 14 v1 (cur.length + 1) (spc cur ++ s.cells)) (hg:W.grownBy W1 vf.ownBlock) (hb:Below B W W1):
  MsSt w (W1.setCell ⟨gf,2,none⟩ v1) gf cfg xsT vt ag seq (cur ++ [s]) xs vo v1 B:=by
 have hg1:W1.heap[gf]? = some (.cells #[.int .i64 ag,.int .i64 seq,vf,.slice none 0 0] 81 (0,0)):=blk_grown h.g hg (own_ne h.f h.g (by decide))
 have hc1:W1.heap[w.heap.size]? = some (.cells cfg 36 (0,0)):=blk_grown h.cf hg (own_ne h.f h.cf (by decide))
 have hgc:w.heap.size ≠ gf:=by have:=h.gge;omega
 have ho1:W1.ownsRow w.heap.size 81 4 vo xs.length (frc xs):=own_other h.out hg (by
  cases hk:vo.ownBlock with
  | none=>exact .inl rfl
  | some k=>
   refine .inr fun e=>?_
   obtain ⟨c1,h1⟩:=own_typed h.out k hk
   obtain ⟨c2,h2⟩:=own_typed h.f k e.symm
   rw [h1] at h2
   injection h2 with h2
   injection h2 with _ h3
   cases h3)
 have ht1:W1.ownsRow 0 70 3 vt xsT.length (trc xsT):=own_other h.tr hg (by
  cases hk:vt.ownBlock with
  | none=>exact .inl rfl
  | some k=>
   refine .inr fun e=>?_
   obtain ⟨c1,h1⟩:=own_typed h.tr k hk
   obtain ⟨c2,h2⟩:=own_typed h.f k e.symm
   rw [h1] at h2
   injection h2 with h2
   injection h2 with _ h3
   cases h3)
 refine ⟨own_setCell ho1 h.ne _,h.ne,?_,h.b0,?_,(h.fs.grow h.f hg).set hg1 (by decide) 2 v1,(h.ts.grow h.f hg).set hg1 (by decide) 2 v1,own_setCell ht1 (own_ne ht1 hg1 (by decide)) _,?_,h.gge,?_,?_⟩
 ·rw [spc_snoc,List.length_append,List.length_singleton]
  exact own_setCell ho (own_ne ho hg1 (by decide)) _
 ·have:=hb.size;have:=h.b1;simp;omega
 ·have:=blk_set hg1 2 v1
  simpa using this
 ·exact (h.bel.trans (hb.mono h.b0)).setCell (Nat.le_of_lt h.gge) _
 ·rw [Below.heap_setCell _ _ _ _ hgc];exact hc1
theorem MsSt.push (h:MsSt w W gf cfg xsT vt ag seq cur xs vo vf B) (ho:W1.ownsRow w.heap.size 81 4 v1 (xs.length + 1) (frc xs ++ [.int .i64 ag,.int .i64 seq,vf,.slice none 0 0])) (hg:W.grownBy W1 vo.ownBlock) (hb:Below w.heap.size w W1)
  (hat:v1.ownBlock = vo.ownBlock ∨ ∃ b,v1.ownBlock = some b∧W.heap.size ≤ b):
  W1.ownsRow w.heap.size 81 4 v1 (xs ++ [((⟨ag,seq,cur⟩:Fr),vf)]).length (frc (xs ++ [((⟨ag,seq,cur⟩:Fr),vf)]))∧some gf ≠ v1.ownBlock∧RowsB W1 w.heap.size W1.heap.size ((xs ++ [((⟨ag,seq,cur⟩:Fr),vf)]).map fun x=>(x.1.l,x.2))∧RowsB W1 0 W1.heap.size (xsT.map fun x=>(x.1.l,x.2))∧
  W1.ownsRow 0 70 3 vt xsT.length (trc xsT)∧W1.heap[gf]? = some (.cells #[.int .i64 ag,.int .i64 seq,vf,.slice none 0 0] 81 (0,0))∧W1.heap[w.heap.size]? = some (.cells cfg 36 (0,0)):=by
 have hgl:=blk_lt h.g
 have hsz:W.heap.size ≤ W1.heap.size:=hg.size
 have hf1:W1.ownsRow B 74 14 vf cur.length (spc cur):=own_other h.f hg (by
  cases hk:vf.ownBlock with
  | none=>exact .inl rfl
  | some k=>
   refine .inr fun e=>?_
   obtain ⟨c1,h1⟩:=own_typed h.f k hk
   obtain ⟨c2,h2⟩:=own_typed h.out k e.symm
   rw [h1] at h2
   injection h2 with h2
   injection h2 with _ h3
   cases h3)
 have ht1:W1.ownsRow 0 70 3 vt xsT.length (trc xsT):=own_other h.tr hg (by
  cases hk:vt.ownBlock with
  | none=>exact .inl rfl
  | some k=>
   refine .inr fun e=>?_
   obtain ⟨c1,h1⟩:=own_typed h.tr k hk
   obtain ⟨c2,h2⟩:=own_typed h.out k e.symm
   rw [h1] at h2
   injection h2 with h2
   injection h2 with _ h3
   cases h3)
 refine ⟨?_,?_,?_,(h.ts.other h.out hg).mono (Nat.le_trans h.b1 hsz),ht1,blk_grown h.g hg h.ne,blk_grown h.cf hg (own_ne h.out h.cf (by decide))⟩
 ·rw [frc_snoc,List.length_append]
  exact ho
 ·rcases hat with e | ⟨b,e,hb2⟩
  ·rw [e];exact h.ne
  ·rw [e]
   intro e2
   injection e2 with e2
   omega
 ·rw [List.map_append]
  exact ((h.fs.other h.out hg).mono (Nat.le_trans h.b1 hsz)).snoc (own_base hf1 h.b0) (fun k hk=>(own_block hf1 k hk).1)
end
theorem fill4 {W:World} {g:Nat} {ty:TypeId} {z0 z1 z2 z3:Value} (h:W.heap[g]? = some (.cells #[z0,z1,z2,z3] ty (0,0))) (v0 v1 v2 v3:Value):
  ((((W.setCell ⟨g,0,none⟩ v0).setCell ⟨g,1,none⟩ v1).setCell ⟨g,2,none⟩ v2).setCell ⟨g,3,none⟩ v3).heap[g]? = some (.cells #[v0,v1,v2,v3] ty (0,0)):=by
 have h0:=blk_set h 0 v0
 simp only [List.setIfInBounds_toArray,List.set_cons_zero,List.set_cons_succ] at h0
 have h1:=blk_set h0 1 v1
 simp only [List.setIfInBounds_toArray,List.set_cons_zero,List.set_cons_succ] at h1
 have h2:=blk_set h1 2 v2
 simp only [List.setIfInBounds_toArray,List.set_cons_zero,List.set_cons_succ] at h2
 have h3:=blk_set h2 3 v3
 simp only [List.setIfInBounds_toArray,List.set_cons_zero,List.set_cons_succ] at h3
 exact h3
theorem set4_other {W:World} {g i:Nat} (hne:i ≠ g) (v0 v1 v2 v3:Value):((((W.setCell ⟨g,0,none⟩ v0).setCell ⟨g,1,none⟩ v1).setCell ⟨g,2,none⟩ v2).setCell ⟨g,3,none⟩ v3).heap[i]? = W.heap[i]?:=by
 rw [Below.heap_setCell _ _ _ _ hne,Below.heap_setCell _ _ _ _ hne,Below.heap_setCell _ _ _ _ hne,Below.heap_setCell _ _ _ _ hne]
theorem MsSt.reset {w W1:World} {gf:Nat} {cfg:Array Value} {xsT:List (Tr × Value)} {vt:Value} {ag seq:Int} {xs:List (Fr × Value)} {v1 vf:Value} (ho:W1.ownsRow w.heap.size 81 4 v1 xs.length (frc xs)) (hne:some gf ≠ v1.ownBlock) (hfs:RowsB W1 w.heap.size W1.heap.size (xs.map fun x=>(x.1.l,x.2))) (hts:RowsB W1 0 W1.heap.size (xsT.map fun x=>(x.1.l,x.2)))
  (htr:W1.ownsRow 0 70 3 vt xsT.length (trc xsT)) (hg:W1.heap[gf]? = some (.cells #[.int .i64 ag,.int .i64 seq,vf,.slice none 0 0] 81 (0,0))) (hcf:W1.heap[w.heap.size]? = some (.cells cfg 36 (0,0))) (hgg:w.heap.size < gf) (hb:Below w.heap.size w W1) (sq:Int):
  MsSt w ((((W1.setCell ⟨gf,0,none⟩ (.int .i64 ag)).setCell ⟨gf,1,none⟩ (.int .i64 sq)).setCell ⟨gf,2,none⟩ (.slice none 0 0)).setCell ⟨gf,3,none⟩ (.slice none 0 0)) gf cfg xsT vt ag sq [] xs v1 (.slice none 0 0) W1.heap.size:=by
 have hs:∀ (W:World) (i:Nat) (u:Value),W.heap[gf]? = W.heap[gf]?:=fun _ _ _=>rfl
 have row:∀ {e:TypeId} {sz n:Nat} {v:Value} {l:List Value} {b:Nat},W1.ownsRow b e sz v n l→some gf ≠ v.ownBlock→((((W1.setCell ⟨gf,0,none⟩ (.int .i64 ag)).setCell ⟨gf,1,none⟩ (.int .i64 sq)).setCell ⟨gf,2,none⟩ (.slice none 0 0)).setCell ⟨gf,3,none⟩ (.slice none 0 0)).ownsRow b e sz v n l:=
  fun h1 h2=>own_setCell (own_setCell (own_setCell (own_setCell h1 h2 _) h2 _) h2 _) h2 _
 refine ⟨row ho hne,hne,⟨rfl,.inl ⟨rfl,rfl⟩⟩,hb.size,by simp,fun x hx=>⟨row (hfs x hx).1 (own_ne (hfs x hx).1 hg (by decide)),(hfs x hx).2⟩,fun x hx=>⟨row (hts x hx).1 (own_ne (hts x hx).1 hg (by decide)),(hts x hx).2⟩,row htr (own_ne htr hg (by decide)),fill4 hg _ _ _ _,hgg,?_,?_⟩
 ·exact (((hb.setCell (Nat.le_of_lt hgg) _).setCell (Nat.le_of_lt hgg) _).setCell (Nat.le_of_lt hgg) _).setCell (Nat.le_of_lt hgg) _
 ·rw [set4_other (by omega)];exact hcf
end Go.Proofs.YtdadnapfecmmdaaGreat.P
