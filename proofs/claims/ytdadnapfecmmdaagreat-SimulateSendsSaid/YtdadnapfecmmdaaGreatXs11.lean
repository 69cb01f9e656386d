/- Own texts of a proof about layer 55's simulate (merged): Sp, Sr, Fm, Va, Vc, Vb, Vd, Ve, PF27, PF68, Ma. -/
import Derived.Test.YtdadnapfecmmdaaGreatXs2
import Derived.Test.YtdadnapfecmmdaaGreatXs3
import Derived.Test.YtdadnapfecmmdaaGreatXs4
import Derived.Test.YtdadnapfecmmdaaGreatXs5
import Derived.Test.YtdadnapfecmmdaaGreatXs6
import Derived.Test.YtdadnapfecmmdaaGreatXs7
import Derived.Test.YtdadnapfecmmdaaGreatXs8
import Derived.Test.YtdadnapfecmmdaaGreatXs9
namespace Go.Proofs.YtdadnapfecmmdaaGreat.P
set_option linter.unusedVariables false
structure Fr where
 agent:Int
 seq:Int
 l:List Sp
def frs (k:Int) (n:Nat) (seq:Int) (l:List Sp):List Fr:=
 if h:l = [] ∨ n = 0 then [] else ⟨k,seq,l.take n⟩::frs k n (seq + 1) (l.drop n)
termination_by l.length
decreasing_by
 have h1:0 < l.length:=List.length_pos_iff.mpr (fun e=>h (.inl e))
 rw [List.length_drop]
 have h2:n ≠ 0:=fun e=>h (.inr e)
 omega
theorem frs_nil (k:Int) (n:Nat) (seq:Int):frs k n seq [] = []:=by
 rw [frs];simp
theorem frs_cons (k:Int) (n:Nat) (seq:Int) (l:List Sp) (hl:l ≠ []) (hn:0 < n):frs k n seq l = ⟨k,seq,l.take n⟩::frs k n (seq + 1) (l.drop n):=by
 rw [frs,dif_neg (fun h=>by rcases h with h | h;exact hl h;omega)]
def frM (k:Int) (n:Nat):List Sp→List Fr→Int→List Sp→List Fr × Int × List Sp
 | [],out,seq,cur=>(out,seq,cur)
 | s::r,out,seq,cur=>if s.clk = k then (if (cur ++ [s]).length = n then frM k n r (out ++ [⟨k,seq,cur ++ [s]⟩]) (seq + 1) [] else frM k n r out seq (cur ++ [s])) else frM k n r out seq cur
def frEnd (k:Int) (x:List Fr × Int × List Sp):List Fr:=if x.2.2.length = 0 then x.1 else x.1 ++ [⟨k,x.2.1,x.2.2⟩]
theorem frM_eq (k:Int) (n:Nat) (hn:0 < n) (l:List Sp):∀ (out:List Fr) (seq:Int) (cur:List Sp),cur.length < n→frEnd k (frM k n l out seq cur) = out ++ frs k n seq (cur ++ l.filter (fun s=>s.clk == k)):=by
 induction l with
 | nil=>
  intro out seq cur hc
  rw [List.filter_nil,List.append_nil]
  change (if cur.length = 0 then out else out ++ [⟨k,seq,cur⟩]) = _
  by_cases h0:cur.length = 0
  ·rw [if_pos h0]
   obtain rfl:=List.eq_nil_of_length_eq_zero h0
   rw [frs_nil,List.append_nil]
  ·rw [if_neg h0,frs_cons k n seq cur (fun e=>h0 (by rw [e];rfl)) hn,List.take_of_length_le (by omega),List.drop_eq_nil_of_le (by omega),frs_nil]
 | cons s r ih=>
  intro out seq cur hc
  simp only [frM]
  by_cases hk:s.clk = k
  ·rw [if_pos hk,List.filter_cons_of_pos (by simpa using hk)]
   by_cases hfull:(cur ++ [s]).length = n
   ·rw [if_pos hfull,ih _ _ _ (by simpa using hn)]
    rw [show cur ++ s::List.filter (fun s=>s.clk == k) r = (cur ++ [s]) ++ List.filter (fun s=>s.clk == k) r from by simp]
    rw [frs_cons k n seq ((cur ++ [s]) ++ _) (by simp) hn]
    rw [← hfull,List.take_left,List.drop_left]
    simp
   ·rw [if_neg hfull,ih _ _ _ (by simp at hfull ⊢;omega)]
    simp
  ·rw [if_neg hk,List.filter_cons_of_neg (by simpa using hk),ih _ _ _ hc]
theorem frM_app (k:Int) (n:Nat) (l m:List Sp):∀ (out:List Fr) (seq:Int) (cur:List Sp),frM k n (l ++ m) out seq cur = frM k n m (frM k n l out seq cur).1 (frM k n l out seq cur).2.1 (frM k n l out seq cur).2.2:=by
 induction l with
 | nil=>intro out seq cur;rfl
 | cons s r ih=>
  intro out seq cur
  simp only [List.cons_append,frM]
  split
  ·split
   ·exact ih _ _ _
   ·exact ih _ _ _
  ·exact ih _ _ _
structure Ar where
 key:Int
 idx:Int
 cpy:Int
def Ar.le (x y:Ar):Bool:=decide (x.key < y.key ∨ x.key = y.key∧(x.idx < y.idx ∨ x.idx = y.idx∧x.cpy ≤ y.cpy))
theorem Ar.le_trans (x y z:Ar) (h1:x.le y = true) (h2:y.le z = true):x.le z = true:=by
 unfold Ar.le at *
 simp only [decide_eq_true_eq] at *
 omega
theorem Ar.le_total (x y:Ar):(x.le y || y.le x) = true:=by
 unfold Ar.le
 simp only [Bool.or_eq_true,decide_eq_true_eq]
 omega
theorem Ar.le_antisymm (x y:Ar) (h1:x.le y = true) (h2:y.le x = true):x = y:=by
 unfold Ar.le at *
 simp only [decide_eq_true_eq] at *
 obtain ⟨a,b,c⟩:=x
 obtain ⟨d,e,f⟩:=y
 simp only at *
 obtain rfl:a = d:=by omega
 obtain rfl:b = e:=by omega
 obtain rfl:c = f:=by omega
 rfl
def arAt (x:Ar) (l:List Ar):Nat→Nat
 | 0=>0
 | k + 1=>match l[k]? with
  | some y=>if y.le x then k + 1 else arAt x l k
  | none=>arAt x l k
def arIns (x:Ar) (l:List Ar):List Ar:=l.take (arAt x l l.length) ++ x::l.drop (arAt x l l.length)
theorem arAt_le (x:Ar) (l:List Ar):∀ k,arAt x l k ≤ k
 | 0=>Nat.le_refl _
 | k + 1=>by
  simp only [arAt]
  split
  ·split
   ·exact Nat.le_refl _
   ·exact Nat.le_succ_of_le (arAt_le x l k)
  ·exact Nat.le_succ_of_le (arAt_le x l k)
theorem arAt_low (x:Ar) (l:List Ar):∀ k,0 < arAt x l k→∃ y,l[arAt x l k - 1]? = some y∧y.le x = true
 | 0,h=>by simp [arAt] at h
 | k + 1,h=>by
  simp only [arAt] at h ⊢
  cases hy:l[k]? with
  | none=>rw [hy] at h;simp only at h ⊢;exact arAt_low x l k h
  | some y=>
   rw [hy] at h
   simp only at h ⊢
   by_cases hl:y.le x = true
   ·rw [if_pos hl];exact ⟨y,by simpa using hy,hl⟩
   ·rw [if_neg hl] at h ⊢;exact arAt_low x l k h
theorem arAt_high (x:Ar) (l:List Ar):∀ k i,arAt x l k ≤ i→i < k→∀ y,l[i]? = some y→y.le x = false
 | 0,i,_,h,_,_=>by omega
 | k + 1,i,h1,h2,y,hy=>by
  simp only [arAt] at h1
  by_cases hik:i = k
  ·subst hik
   rw [hy] at h1
   simp only at h1
   by_cases hl:y.le x = true
   ·rw [if_pos hl] at h1;omega
   ·simpa using hl
  ·cases hz:l[k]? with
   | none=>rw [hz] at h1;exact arAt_high x l k i h1 (by omega) y hy
   | some z=>
    rw [hz] at h1
    simp only at h1
    by_cases hl:z.le x = true
    ·rw [if_pos hl] at h1;omega
    ·rw [if_neg hl] at h1;exact arAt_high x l k i h1 (by omega) y hy
theorem arIns_perm (x:Ar) (l:List Ar):(arIns x l).Perm (x::l):=by
 unfold arIns
 refine List.perm_middle.trans ?_
 rw [List.take_append_drop]
theorem arIns_sorted (x:Ar) (l:List Ar) (hs:l.Pairwise (fun a b=>a.le b = true)):(arIns x l).Pairwise (fun a b=>a.le b = true):=by
 unfold arIns
 have hle:=arAt_le x l l.length
 have hlow:∀ a ∈ l.take (arAt x l l.length),a.le x = true:=by
  intro a ha
  obtain ⟨i,hi,rfl⟩:=List.getElem_of_mem ha
  rw [List.length_take] at hi
  rw [List.getElem_take]
  obtain ⟨y,hy,hyx⟩:=arAt_low x l l.length (by omega)
  obtain ⟨hyl,rfl⟩:=List.getElem?_eq_some_iff.mp hy
  by_cases hij:i = arAt x l l.length - 1
  ·subst hij;exact hyx
  ·exact Ar.le_trans _ _ _ (List.pairwise_iff_getElem.mp hs i (arAt x l l.length - 1) (by omega) hyl (by omega)) hyx
 have hhigh:∀ b ∈ l.drop (arAt x l l.length),x.le b = true:=by
  intro b hb
  obtain ⟨i,hi,rfl⟩:=List.getElem_of_mem hb
  rw [List.length_drop] at hi
  rw [List.getElem_drop]
  have h:=arAt_high x l l.length (arAt x l l.length + i) (by omega) (by omega) _ (List.getElem?_eq_getElem (by omega))
  have ht:=Ar.le_total x (l[arAt x l l.length + i]'(by omega))
  rw [h,Bool.or_false] at ht
  exact ht
 rw [List.pairwise_append]
 refine ⟨hs.take,List.pairwise_cons.mpr ⟨hhigh,hs.drop⟩,fun a ha b hb=>?_⟩
 rcases List.mem_cons.mp hb with rfl | hb
 ·exact hlow a ha
 ·exact Ar.le_trans _ _ _ (hlow a ha) (hhigh b hb)
theorem sorted_unique (l m:List Ar) (hp:l.Perm m) (hl:l.Pairwise (fun a b=>a.le b = true)) (hm:m.Pairwise (fun a b=>a.le b = true)):l = m:=
 List.Perm.eq_of_pairwise (fun a b _ _ h1 h2=>Ar.le_antisymm a b h1 h2) hl hm hp
def arSort:List Ar→List Ar→List Ar
 | [],acc=>acc
 | x::r,acc=>arSort r (arIns x acc)
theorem arSort_perm (l:List Ar):∀ acc,(arSort l acc).Perm (l ++ acc):=by
 induction l with
 | nil=>intro acc;exact List.Perm.refl _
 | cons x r ih=>
  intro acc
  refine (ih _).trans ?_
  refine (List.Perm.append_left r (arIns_perm x acc)).trans ?_
  simp [List.perm_middle]
theorem arSort_sorted (l:List Ar):∀ acc,acc.Pairwise (fun a b=>a.le b = true)→(arSort l acc).Pairwise (fun a b=>a.le b = true):=by
 induction l with
 | nil=>intro acc h;exact h
 | cons x r ih=>intro acc h;exact ih _ (arIns_sorted x acc h)
theorem arSort_eq (l m:List Ar) (hp:m.Perm l) (hm:m.Pairwise (fun a b=>a.le b = true)):m = arSort l []:=
 sorted_unique m _ (hp.trans (by simpa using (arSort_perm l []).symm)) hm (arSort_sorted l [] List.Pairwise.nil)
end Go.Proofs.YtdadnapfecmmdaaGreat.P
namespace Go.Proofs.YtdadnapfecmmdaaGreat.P
set_option linter.unusedVariables false
set_option linter.unusedSimpArgs false
open Go.RowKit Go.Proofs.YtdadnapfecmmdaaGreatW.PrintWords Go.Proofs.YtdadnapfecmmdaaGreatW.PrintLast Go.Proofs.YtdadnapfecmmdaaGreatW.PrintMore
def toS (s:Sp):S74:=⟨s.tr,s.id,s.par,s.rev,s.clk,s.kind,s.svc,s.ver,s.op,s.st,s.en,s.err,[],[]⟩
def toT (x:Tr):S70:=⟨x.id,1,x.l.map toS⟩
theorem spc_at (l:List Sp) (j:Nat) (hj:j < l.length):((spc l).drop (j * 14)).take 14 = l[j].cells:=by
 apply List.ext_getElem?
 intro i
 rw [List.getElem?_take]
 split
 ·rename_i h
  rw [List.getElem?_drop,spc_get l j i hj h]
 ·rename_i h
  rw [List.getElem?_eq_none (by rw [Sp.cells_len];omega)]
theorem spc_reps (w:World) (l:List Sp):Reps (k74.K w) 14 (l.map toS) (spc l):=by
 refine ⟨by rw [spc_len,List.length_map],fun j p hj=>?_⟩
 rw [List.getElem?_map] at hj
 obtain ⟨s,hs,rfl⟩:=Option.map_eq_some_iff.mp hj
 obtain ⟨hl,rfl⟩:=List.getElem?_eq_some_iff.mp hs
 rw [spc_at l j hl]
 exact k74_mk w (toS l[j]) (A12:=none) (c12:=0) (Nat.le_refl _) ⟨rfl,by simp [toS],fun h=>absurd h (by simp [toS])⟩ (A13:=none) (c13:=0) (Nat.le_refl _) ⟨rfl,by simp [toS],fun h=>absurd h (by simp [toS])⟩
theorem own_le {w:World} {b:Nat} {e:TypeId} {sz n m:Nat} {A:Option Addr} {c:Nat} {xs:List Value} (h:w.ownsRow b e sz (.slice A n c) m xs):n ≤ c:=by
 rcases h.2 with ⟨h,_⟩ | ⟨g,cap,cur,h1,_,_,h4,_⟩
 ·injection h;omega
 ·injection h1;omega
theorem spc_reads {w:World} {b:Nat} {v:Value} {l:List Sp} (h:w.ownsRow b 74 14 v l.length (spc l)):∃ A c,v = .slice A (l.map toS).length c∧(l.map toS).length ≤ c∧Kd.C k74 w A (l.map toS).length (l.map toS):=by
 obtain ⟨A,c,rfl,hr⟩:=own_reads_row h (spc_reps w l) (by simp)
 rw [List.length_map]
 exact ⟨A,c,rfl,own_le h,hr⟩
theorem trc_at (xs:List (Tr × Value)):∀ j,(hj:j < xs.length)→((trc xs).drop (j * 3)).take 3 = [.int .i64 xs[j].1.id,.int .i64 1,xs[j].2]:=by
 induction xs with
 | nil=>intro j hj;simp at hj
 | cons x r ih=>
  intro j hj
  match j with
  | 0=>simp [trc]
  | j + 1=>
   simp only [trc,List.getElem_cons_succ]
   rw [show (j + 1) * 3 = j * 3 + 3 from by omega]
   have:=ih j (by simpa using hj)
   simpa using this
theorem trc_len (xs:List (Tr × Value)):(trc xs).length = xs.length * 3:=by
 induction xs with
 | nil=>rfl
 | cons x r ih=>simp only [trc,List.length_append,List.length_cons,List.length_nil,ih];omega
end Go.Proofs.YtdadnapfecmmdaaGreat.P
namespace Go.Proofs.YtdadnapfecmmdaaGreat.P
set_option linter.unusedVariables false
set_option linter.unusedSimpArgs false
open Go.RowKit Go.Proofs.YtdadnapfecmmdaaGreatW.PrintWords Go.Proofs.YtdadnapfecmmdaaGreatW.PrintLast Go.Proofs.YtdadnapfecmmdaaGreatW.PrintMore
open Go.Proofs.YtdadnapfecmmdaaGreat.Hm
set_option maxHeartbeats 1000000 in
theorem mindex_calls (c:Cfg) (p:CfgAt) (name:ByteArray) (w:World) (hR:CfgR w p c):Calls Tryz.prog 70 #[c.val p,.string name] w fun e w'=>e = .returned (.int .i64 (svIdx c.sv name))∧Below w.heap.size w w':=by
 obtain ⟨A1,c1,A2,c2,A3,c3,A4,c4⟩:=p
 have HR:=Aside0.mk hR.r1
 have hn:c.sv.length ≤ 9223372036854775807:=hR.r1.2.1
 have HX0:=Aside0.mk (blk_new w (.cells (c.cells ⟨A1,c1,A2,c2,A3,c3,A4,c4⟩) 36))
 have HB0:=Aside0.mk (below_alloc (Below.refl w.heap.size w) (.cells (c.cells ⟨A1,c1,A2,c2,A3,c3,A4,c4⟩) 36))
 clear hR
 go_enter Tryz.func70,Tryz.ntmps70
 go_wp2_with fail
 go_loopg [5] c.sv.length (fun gg s5 wr=>∃ i:Nat,i ≤ c.sv.length∧c.sv.length - i ≤ gg∧s5 = .int .i64 (i:Int)∧Aside0 (wr.heap[w.heap.size]? = some (.cells (c.cells ⟨A1,c1,A2,c2,A3,c3,A4,c4⟩) 36 (0,0)))∧Aside0 (Below w.heap.size w wr)∧Aside0 (∀ j (_:j < i) (hj:j < c.sv.length),(c.sv[j].f0.toList == name.toList) = false))
 case atStart=>exact ⟨0,Nat.zero_le _,by omega,rfl,HX0,HB0,⟨fun j hj=>absurd hj (Nat.not_lt_zero _)⟩⟩
 case round=>
 clear HX0 HB0
 obtain ⟨i,hi,hgi,rfl,HX,HB,AN⟩:=hrel
 have q1:wr.cell? ⟨w.heap.size,1,none⟩ = some (.slice A1 c.sv.length c1):=(blk_cell HX.out 1).trans rfl
 by_cases hlt:i < c.sv.length
 ·obtain ⟨ad,A5,c5,e,h0,_⟩:=at_T51 HR.out (i:Int) (by omega) (by omega)
  subst e
  rw [rd_T51_get c.sv i hlt] at h0
  simp only [Int.toNat_natCast] at h0
  replace h0:=below_at HB.out h0
  have hltz:(i:Int) < (c.sv.length:Int):=by omega
  generalize hy:c.sv[i] = y at h0
  have B:=Aside0.mk hy
  clear hy
  cases hq:(y.f0.toList == name.toList) with
  | true=>
   go_wp2_with fail
   go_ret
   refine ⟨?_,HB.out⟩
   have e:svIdx c.sv name = (i:Int):=idxBy_hit (fun x:S51=>x.f0.toList == name.toList) c.sv i hlt (by rw [B.out];exact hq) (fun j hj=>AN.out j hj (by omega))
   rw [e]
   rfl
  | false=>
   go_wp2_with fail
   go_roundg (c.sv.length - (i + 1))
   case rel=>exact ⟨i + 1,by omega,Nat.le_refl _,by first | rfl | go_num,HX,HB,⟨fun j hj hjl=>by
    by_cases hjk:j < i
    ·exact AN.out j hjk hjl
    ·obtain rfl:j = i:=by omega
     rw [B.out];exact hq⟩⟩
   case measure=>omega
 ·obtain rfl:i = c.sv.length:=by omega
  go_wp2_with fail
  go_ret
  refine ⟨?_,HB.out⟩
  have e:svIdx c.sv name = -1:=idxBy_none (fun x:S51=>x.f0.toList == name.toList) c.sv (fun j hj=>AN.out j hj hj)
  rw [e]
  rfl
end Go.Proofs.YtdadnapfecmmdaaGreat.P
namespace Go.Proofs.YtdadnapfecmmdaaGreat.P
set_option linter.unusedVariables false
open Go.RowKit Go.Proofs.YtdadnapfecmmdaaGreatW.PrintWords Go.Proofs.YtdadnapfecmmdaaGreatW.PrintLast Go.Proofs.YtdadnapfecmmdaaGreatW.PrintMore
theorem w1 (i:Int) (h0:0 ≤ i) (h1:i ≤ 1000000):wrap64 (i + 1) = i + 1:=by unfold wrap64;omega
end Go.Proofs.YtdadnapfecmmdaaGreat.P
namespace Go.Proofs.YtdadnapfecmmdaaGreat.P
set_option linter.unusedVariables false
set_option linter.unusedSimpArgs false
open Go.RowKit Go.Proofs.YtdadnapfecmmdaaGreatW.PrintWords Go.Proofs.YtdadnapfecmmdaaGreatW.PrintLast Go.Proofs.YtdadnapfecmmdaaGreatW.PrintMore
open Go.Proofs.YtdadnapfecmmdaaGreat.Hm
theorem cmpInt_ord (a b:Int):cmp_Compare_int.f a b = some (ordV a b):=by
 unfold cmp_Compare_int.f cmp_isNaN_int.f ordV
 simp only [Option.bind_some,bne_self_eq_false,Bool.false_eq_true,if_false]
 split
 ·rfl
 ·split <;> rfl
theorem or_first (l:List Int) (hl:l.length ≤ 1000) (d:Nat):∀ i:Nat,i + d = l.length→∀ k,d + 1 ≤ k→cmp_Or_int.l0 k 0 l (l.length:Int) (i:Int) = some (firstNz (l.drop i)):=by
 induction d with
 | zero=>
  intro i hi k hk
  obtain ⟨k,rfl⟩:∃ m,k = m + 1:=⟨k - 1,by omega⟩
  simp only [cmp_Or_int.l0]
  rw [if_neg (by omega),List.drop_of_length_le (by omega)]
  rfl
 | succ d ih=>
  intro i hi k hk
  obtain ⟨k,rfl⟩:∃ m,k = m + 1:=⟨k - 1,by omega⟩
  have hr:rd l (i:Int) = l[i]:=by unfold rd;simp [List.getD_eq_getElem?_getD,show i < l.length by omega]
  simp only [cmp_Or_int.l0]
  rw [if_pos (by omega),if_pos (by omega),if_pos (by omega),hr,firstNz_drop l i (by omega),w1 _ (by omega) (by omega)]
  by_cases h:l[i] = 0
  ·rw [if_pos h,if_pos h]
   exact ih (i + 1) (by omega) k (by omega)
  ·rw [if_neg h,if_neg h]
theorem chgCmp_eq (a b:S98):chgCmp a b = cmp47 a b:=by
 unfold chgCmp deployment_Compare.f cmp_Compare_string.f cmp_Or_int.f
 simp only [cmpInt_ord,Option.bind_some]
 have h:=or_first [ordV a.f2 b.f2,ordV a.f0 b.f0,ordV a.f1 b.f1,cmpStr a.f3 b.f3,cmpStr a.f4 b.f4,cmpStr a.f5 b.f5] (by simp) 6 0 (by simp) 10 (by omega)
 rw [show ((0:Nat):Int) = 0 from rfl] at h
 rw [h]
 rfl
def lexlt (a b:S98):Prop:=a.f2 < b.f2 ∨ (a.f2 = b.f2∧a.f0 < b.f0)
theorem cmp47_lt (a b:S98) (hne:a.f0 ≠ b.f0):cmp47 a b < 0 ↔ lexlt a b:=by
 unfold cmp47 lexlt
 simp only [firstNz,ordV]
 by_cases h1:a.f2 < b.f2
 ·simp [h1]
 ·by_cases h2:a.f2 > b.f2
  ·simp [h1,h2];omega
  ·have h3:a.f2 = b.f2:=by omega
   by_cases h4:a.f0 < b.f0
   ·simp [h3,h4]
   ·have h5:a.f0 > b.f0:=by omega
    simp [h3,h4,h5]
def Apart (a b:S98):Prop:=lexlt a b∧a.f0 ≠ b.f0
theorem lexlt_trans {a b c:S98} (h:lexlt a b) (k:lexlt b c):lexlt a c:=by
 unfold lexlt at *
 omega
theorem lexlt_total {a b:S98} (hne:a.f0 ≠ b.f0) (h:¬ lexlt a b):lexlt b a:=by
 unfold lexlt at *
 omega
theorem ins_mem (x:S98) (l:List S98) (k:Nat) (z:S98) (h:z ∈ l.take k ++ [x] ++ l.drop k):z ∈ l ∨ z = x:=by
 simp only [List.mem_append,List.mem_singleton] at h
 rcases h with (h | h) | h
 ·exact .inl (List.mem_of_mem_take h)
 ·exact .inr h
 ·exact .inl (List.mem_of_mem_drop h)
theorem ins_apart (x:S98) (l:List S98) (hp:l.Pairwise Apart) (hne:∀ y ∈ l,y.f0 ≠ x.f0):(l.take (insAt x l) ++ [x] ++ l.drop (insAt x l)).Pairwise Apart:=by
 induction l with
 | nil=>simp [insAt]
 | cons y r ih=>
  have hy:=hne y (by simp)
  rw [List.pairwise_cons] at hp
  by_cases hc:cmp47 y x < 0
  ·have e:insAt x (y::r) = insAt x r + 1:=by simp only [insAt];rw [if_pos hc]
   rw [e]
   simp only [List.take_succ_cons,List.drop_succ_cons,List.cons_append]
   rw [List.pairwise_cons]
   refine ⟨fun z hz=>?_,ih hp.2 (fun z hz=>hne z (by simp [hz]))⟩
   rcases ins_mem x r _ z hz with h | h
   ·exact hp.1 z h
   ·rw [h];exact ⟨(cmp47_lt y x hy).mp hc,hy⟩
  ·have e:insAt x (y::r) = 0:=by simp only [insAt];rw [if_neg hc]
   rw [e]
   simp only [List.take_zero,List.drop_zero,List.nil_append,List.singleton_append]
   have hxy:lexlt x y:=lexlt_total hy (fun h=>hc ((cmp47_lt y x hy).mpr h))
   rw [List.pairwise_cons]
   refine ⟨fun z hz=>?_,List.pairwise_cons.mpr hp⟩
   rcases List.mem_cons.mp hz with h | h
   ·rw [h];exact ⟨hxy,Ne.symm hy⟩
   ·exact ⟨lexlt_trans hxy (hp.1 z h).1,Ne.symm (hne z (by simp [h]))⟩
theorem insNew_true (x:S98) (l:List S98) (hne:∀ y ∈ l,y.f0 ≠ x.f0):insNew x l = true:=by
 unfold insNew
 split
 ·rfl
 ·rename_i h
  have hk:insAt x l < l.length:=by have:=insAt_le x l;omega
  have e:rd_T98 l (insAt x l:Int) = l[insAt x l]:=by unfold rd_T98;simp [List.getD_eq_getElem?_getD,hk]
  have hm:=hne l[insAt x l] (List.getElem_mem hk)
  rw [e]
  have:(l[insAt x l].f0 == x.f0) = false:=by simpa using hm
  unfold same100
  rw [this]
  rfl
theorem srt_inv (ok:S98→Prop) (l:List S98) (hid:∀ i (h:i < l.length),l[i].f0 = (i:Int) + 1) (hok:∀ x ∈ l,ok x) (k:Nat) (hk:k ≤ l.length):
  (srt47 (l.take k)).Pairwise Apart∧∀ y ∈ srt47 (l.take k),ok y∧1 ≤ y.f0∧y.f0 ≤ (k:Int):=by
 induction k with
 | zero=>simp [srt47]
 | succ k ih=>
  obtain ⟨h1,h2⟩:=ih (by omega)
  have e:rd_T98 l (k:Int) = l[k]:=by unfold rd_T98;simp [List.getD_eq_getElem?_getD,show k < l.length by omega]
  have hk1:=hid k (by omega)
  rw [srt47_take l k (by omega),e]
  have hne:∀ y ∈ srt47 (l.take k),y.f0 ≠ l[k].f0:=fun y hy=>by have:=(h2 y hy).2.2;rw [hk1];omega
  unfold ins47
  rw [if_pos (insNew_true _ _ hne)]
  refine ⟨ins_apart _ _ h1 hne,fun y hy=>?_⟩
  rcases ins_mem _ _ _ y hy with h | h
  ·obtain ⟨a,b,c⟩:=h2 y h
   exact ⟨a,b,by omega⟩
  ·rw [h,hk1]
   exact ⟨hok _ (List.getElem_mem _),by omega,by omega⟩
theorem depCk_ok (l:List S98) (hp:l.Pairwise Apart) (hok:∀ y ∈ l,chkOne y = 0) (n:Nat):∀ (m:List (Int × Bool)) (i:Nat),i + n = l.length→(∀ id,mget m id ≠ none→∃ j,∃ h:j < l.length,j < i∧l[j].f0 = id)→depCk l m i n = 0:=by
 induction n with
 | zero=>intro m i _ _;rfl
 | succ n ih=>
  intro m i hi hm
  have hil:i < l.length:=by omega
  have e:rd_T98 l (i:Int) = l[i]:=by unfold rd_T98;simp [List.getD_eq_getElem?_getD,hil]
  have hpw:=List.pairwise_iff_getElem.mp hp
  simp only [depCk,e]
  rw [if_neg (by rw [hok _ (List.getElem_mem hil)];simp),if_neg,if_neg]
  ·refine ih _ (i + 1) (by omega) (fun id hid=>?_)
   by_cases h:id = l[i].f0
   ·exact ⟨i,hil,by omega,h.symm⟩
   ·rw [mget_put_other _ _ _ _ h] at hid
    obtain ⟨j,hj,hji,he⟩:=hm id hid
    exact ⟨j,hj,by omega,he⟩
  ·intro h
   obtain ⟨j,hj,hji,he⟩:=hm l[i].f0 (fun hn=>by rw [hn] at h;simp at h)
   exact (hpw j i hj hil hji).2 he
  ·rintro ⟨h0,h1⟩
   have e2:rd_T98 l ((i:Int) - 1) = l[i - 1]:=by
    rw [show (i:Int) - 1 = ((i - 1:Nat):Int) from by omega]
    unfold rd_T98;simp [List.getD_eq_getElem?_getD,show i - 1 < l.length by omega]
   have hap:=hpw (i - 1) i (by omega) hil (by omega)
   rw [e2,chgCmp_eq,cmp47_lt _ _ (Ne.symm hap.2)] at h1
   have:=hap.1
   unfold lexlt at h1 this
   omega
theorem name_ok (s:ByteArray) (h:s = nmW ∨ s = nmA ∨ s = nmD ∨ s = nmC ∨ s = ⟨#[118,49]⟩ ∨ s = ⟨#[118,50]⟩ ∨ s = ⟨#[118,51]⟩):NameOk s:=by
 rcases h with rfl | rfl | rfl | rfl | rfl | rfl | rfl <;> exact NameOk.of (by kernel_rfl)
theorem nm47_ok (i:Nat):NameOk (nm47 i):=by
 match i with
 | 0=>exact name_ok _ (by simp [nm47])
 | 1=>exact name_ok _ (by simp [nm47])
 | 2=>exact name_ok _ (by simp [nm47])
 | _ + 3=>exact name_ok _ (by simp [nm47])
theorem ver47_ok (i:Nat):NameOk (ver47 i):=by
 match i with
 | 0=>exact name_ok _ (by simp [ver47])
 | 1=>exact name_ok _ (by simp [ver47])
 | _ + 2=>exact name_ok _ (by simp [ver47])
theorem chkOne_ok (c:S98) (a0:1 ≤ c.f0) (a1:c.f0 ≤ 1000) (b0:0 ≤ c.f2) (b1:c.f2 ≤ 1000) (hs:NameOk c.f3)
  (h:(c.f1 = 1∧c.f4 = ⟨#[]⟩∧NameOk c.f5) ∨ ((c.f1 = 2 ∨ c.f1 = 3)∧c.f5 = ⟨#[]⟩∧NameOk c.f4)):chkOne c = 0:=by
 obtain ⟨f0,f1,f2,f3,f4,f5⟩:=c
 dsimp only at *
 have key:∀ (must other:ByteArray),other = ⟨#[]⟩→NameOk must→1 ≤ f1→f1 ≤ 3→deployment_checkOne.j0 79 must other f0 f1 f2 f3 f4 f5 = some 0:=by
  intro must other ho hm g0 g1
  have e1:¬ (f0 > 1099511627776):=by omega
  have e2:¬ (f1 > 3):=by omega
  have e3:¬ (f2 > 1048576):=by omega
  simp only [deployment_checkOne.j0]
  rw [if_neg (by omega),show decide (f0 > 1099511627776) = false from by simpa using e1]
  simp only [deployment_checkOne.j1,Bool.false_eq_true,if_false]
  rw [if_neg (by omega),show decide (f1 > 3) = false from by simpa using e2]
  simp only [deployment_checkOne.j2,Bool.false_eq_true,if_false]
  rw [if_neg (by omega),show decide (f2 > 1048576) = false from by simpa using e3]
  simp only [deployment_checkOne.j3,Bool.false_eq_true,if_false]
  rw [hs 75 (by omega)]
  simp only [Option.bind_some,if_true]
  rw [if_pos (by rw [ho];kernel_rfl),hm 75 (by omega)]
  rfl
 unfold chkOne deployment_checkOne.f
 rcases h with ⟨h1,h2,h3⟩ | ⟨h1,h2,h3⟩
 ·dsimp only
  rw [if_pos h1,key f5 f4 h2 h3 (by omega) (by omega)]
  rfl
 ·dsimp only
  rw [if_neg (by omega),key f4 f5 h2 h3 (by omega) (by omega)]
  rfl
theorem chgOf_ok (x:S56) (id:Int) (a0:1 ≤ id) (a1:id ≤ 1000):chkOne (chgOf x id) = 0∧(chgOf x id).f0 = id:=by
 unfold chgOf
 split
 ·exact ⟨chkOne_ok _ a0 a1 (by dsimp only;omega) (by dsimp only;omega) (nm47_ok _) (.inl ⟨rfl,rfl,ver47_ok _⟩),rfl⟩
 ·refine ⟨chkOne_ok _ a0 a1 (by dsimp only;omega) (by dsimp only;omega) (nm47_ok _) (.inr ⟨?_,rfl,nm47_ok _⟩),rfl⟩
  dsimp only
  omega
theorem mkChgs_get (l:List S56) (k i:Nat) (h:i < (mkChgs l k).length):(mkChgs l k)[i] = chgOf (rd_T56 l i) ((i:Int) + 1):=by
 simp [mkChgs]
theorem mkChgs_inv (l:List S56):(chgs47 l).Pairwise Apart∧∀ y ∈ chgs47 l,(chkOne y = 0∧∃ x,∃ id,y = chgOf x id)∧1 ≤ y.f0∧y.f0 ≤ (min l.length 12:Nat):=by
 have hl:=mkChgs_len l (min l.length 12)
 have h:=srt_inv (fun y=>chkOne y = 0∧∃ x,∃ id,y = chgOf x id) (mkChgs l (min l.length 12))
  (fun i hi=>by rw [mkChgs_get];rw [hl] at hi;exact (chgOf_ok _ _ (by omega) (by omega)).2)
  (fun x hx=>by
   obtain ⟨i,hi,rfl⟩:=List.getElem_of_mem hx
   rw [mkChgs_get]
   rw [hl] at hi
   exact ⟨(chgOf_ok _ _ (by omega) (by omega)).1,_,_,rfl⟩) (min l.length 12) (by omega)
 rw [List.take_of_length_le (by omega)] at h
 exact h
theorem chgs_len (l:List S56):(chgs47 l).length ≤ 12:=by
 unfold chgs47
 have hl:=mkChgs_len l (min l.length 12)
 have:=srt47_len (mkChgs l (min l.length 12)) (min l.length 12) (by omega)
 rw [List.take_of_length_le (by omega)] at this
 omega
theorem depCheck_ok (l:List S56):depCheck (chgs47 l) = 0:=by
 unfold depCheck
 have:=chgs_len l
 rw [if_neg (by omega)]
 exact depCk_ok _ (mkChgs_inv l).1 (fun y hy=>((mkChgs_inv l).2 y hy).1.1) _ [] 0 (by omega) (fun id h=>absurd rfl h)
theorem nm4_ok (i:Nat):NameOk (nm4 i):=by
 match i with
 | 0=>exact name_ok _ (by simp [nm4])
 | 1=>exact name_ok _ (by simp [nm4])
 | 2=>exact name_ok _ (by simp [nm4])
 | _ + 3=>exact name_ok _ (by simp [nm4])
theorem nm4_all:((List.range 4).all fun i=>(List.range 4).all fun j=>((nm4 i).toList == (nm4 j).toList) == decide (i = j)) = true:=by kernel_rfl
theorem nm4_eq (i j:Nat) (hi:i < 4) (hj:j < 4):((nm4 i).toList == (nm4 j).toList) = decide (i = j):=by
 have h:=List.all_eq_true.mp (List.all_eq_true.mp nm4_all i (List.mem_range.mpr hi)) j (List.mem_range.mpr hj)
 exact beq_iff_eq.mp h
theorem nm4_inj (i j:Nat) (hi:i < 4) (hj:j < 4) (h:nm4 i = nm4 j):i = j:=by
 have:=nm4_eq i j hi hj
 rw [h] at this
 simpa using this
section
variable (p:Plan)
theorem plan_n0:1 ≤ p.n:=by
 unfold Plan.n Plan.ps
 split
 ·simp
 ·rename_i h
  have:=List.length_pos_iff.mpr h
  omega
theorem plan_n4:p.n ≤ 4:=by unfold Plan.n;omega
theorem sv_len:p.sv.length = p.n:=by simp [Plan.sv]
theorem sv_get (i:Nat) (h:i < p.sv.length):p.sv[i] = svOf p.n i (rd_T47 p.ps i):=by simp [Plan.sv]
theorem sv_idx (j:Nat) (h:j < p.n):svIdx p.sv (nm4 j) = (j:Int):=by
 have h4:=plan_n4 p
 have hl:=sv_len p
 unfold svIdx
 refine idxBy_hit _ _ j (by omega) ?_ (fun i hi=>?_)
 ·rw [sv_get];simp [svOf]
 ·rw [sv_get]
  simp only [svOf]
  rw [nm4_eq i j (by omega) (by omega)]
  simp;omega
theorem calls_mem (n i:Nat) (b:Int) (k:Nat) (nm:ByteArray) (h:nm ∈ callsOf n i b k):∃ j,i < j∧j < n∧nm = nm4 j:=by
 unfold callsOf at h
 obtain ⟨j,hj,rfl⟩:=List.mem_map.mp h
 have:=(List.mem_filter.mp hj).2
 simp only [Bool.and_eq_true,decide_eq_true_eq] at this
 exact ⟨i + 1 + j,by omega,this.1,rfl⟩
def bnd:Nat→Int
 | 0=>0
 | d + 1=>4 + 3 * bnd d
theorem bnd_range (d:Nat) (h:d ≤ 4):0 ≤ bnd d∧bnd d ≤ 160:=by
 match d,h with
 | 0,_=>decide
 | 1,_=>decide
 | 2,_=>decide
 | 3,_=>decide
 | 4,_=>decide
theorem cntSum_le (m:List (ByteArray × Int)) (B:Int) (hB:B ≤ 1000) (hm:∀ x,0 ≤ cntName m x∧cntName m x ≤ B) (l:List ByteArray) (hl:l.length ≤ 3):1 ≤ cntSum m l 1∧cntSum m l 1 ≤ 4 + 3 * B:=by
 have e:∀ x:ByteArray,∀ n:Int,0 ≤ n→n ≤ 10000→wrap64 (n + wrap64 (1 + cntName m x)) = n + (1 + cntName m x):=by
  intro x n h0 h1
  have:=hm x
  unfold wrap64;omega
 match l,hl with
 | [],_=>simp only [cntSum];have:=hm ByteArray.empty;omega
 | [x],_=>
  have:=hm x
  simp only [cntSum]
  rw [e x 1 (by omega) (by omega)]
  omega
 | [x,y],_=>
  have:=hm x
  have:=hm y
  simp only [cntSum]
  rw [e x 1 (by omega) (by omega),e y _ (by omega) (by omega)]
  omega
 | [x,y,z],_=>
  have:=hm x
  have:=hm y
  have:=hm z
  simp only [cntSum]
  rw [e x 1 (by omega) (by omega),e y _ (by omega) (by omega),e z _ (by omega) (by omega)]
  omega
 | _::_::_::_::_,h=>simp at h
theorem cntMap_le (l:List S51) (hl:∀ x ∈ l,x.f5.length ≤ 3) (h4:l.length ≤ 4):∀ nm,0 ≤ cntName (cntMap l) nm∧cntName (cntMap l) nm ≤ bnd l.length:=by
 induction l with
 | nil=>intro nm;simp [cntName,cntMap,mget,bnd]
 | cons s r ih=>
  intro nm
  simp only [List.length_cons] at h4
  have ih':=ih (fun x hx=>hl x (by simp [hx])) (by omega)
  have hb:=bnd_range r.length (by omega)
  have hs:=cntSum_le (cntMap r) (bnd r.length) (by omega) ih' s.f5 (hl s (by simp))
  simp only [cntMap,List.length_cons,bnd]
  by_cases h:nm = s.f0
  ·subst h
   unfold cntName
   rw [mget_put_same]
   simp only [Option.getD_some]
   omega
  ·have e:cntName (mput (cntMap r) s.f0 (cntSum (cntMap r) s.f5 1)) nm = cntName (cntMap r) nm:=by unfold cntName;rw [mget_put_other _ _ _ _ h]
   rw [e]
   have:=ih' nm
   omega
theorem cfg_cnt:cntOf p.sv ≤ 256:=by
 have h4:=plan_n4 p
 have hl:=sv_len p
 have h:=cntMap_le p.sv (fun x hx=>by
  obtain ⟨i,hi,rfl⟩:=List.getElem_of_mem hx
  rw [sv_get]
  exact callsOf_len _ _ _ _) (by omega) (rd_T51 p.sv 0).f0
 have hb:=bnd_range p.sv.length (by omega)
 unfold cntOf
 omega
theorem off_gap (i:Nat) (h:i < p.sv.length):(offOf p.offs (p.sv[i]).f1).2 = true:=by
 rw [sv_get]
 simp only [svOf]
 have h0:1 + (rd_T47 p.ps i).f0 % 3 = 1 ∨ 1 + (rd_T47 p.ps i).f0 % 3 = 2 ∨ 1 + (rd_T47 p.ps i).f0 % 3 = 3:=by omega
 unfold offOf offIdx Plan.offs
 rcases h0 with h0 | h0 | h0 <;> rw [h0]
 ·rw [idxBy_hit _ _ 0 (by simp) (by simp) (fun j hj=>by omega)];simp
 ·rw [idxBy_hit _ _ 1 (by simp) (by simp) (fun j hj=>by obtain rfl:j = 0:=(by omega);simp)];simp
 ·rw [idxBy_hit _ _ 2 (by simp) (by simp) (fun j hj=>by
   match j,hj with
   | 0,_=>simp
   | 1,_=>simp)];simp
theorem tm21 (x:Int):-20 ≤ x.tmod 21∧x.tmod 21 ≤ 20:=by
 have h1:=Int.tmod_lt_of_pos x (show (0:Int) < 21 by decide)
 have h2:=Int.lt_tmod_of_pos x (show (0:Int) < 21 by decide)
 omega
theorem ver3_ok (i:Nat):(ver3 i).toList = [] ∨ NameOk (ver3 i):=by
 match i with
 | 0=>left;kernel_rfl
 | 1=>right;exact name_ok _ (by simp [ver3])
 | _ + 2=>right;exact name_ok _ (by simp [ver3])
theorem cfg_valid (hok:PlanOk p):Valid (p.cfg chgs47):=by
 have h4:=plan_n4 p
 have h0:=plan_n0 p
 have hl:=sv_len p
 have hfl:p.flts.length ≤ 3:=by unfold Plan.flts;simp;omega
 have hfg:∀ i (h:i < p.flts.length),∃ x,p.flts[i] = trOf p.n x:=fun i h=>by
  unfold Plan.flts at h ⊢
  rw [List.getElem_map]
  exact ⟨_,rfl⟩
 obtain ⟨s0,s1⟩:=hok.seed
 refine ⟨?_,?_,?_,?_,?_,?_,?_,?_,?_,?_,?_,?_,?_,off_gap p,depCheck_ok _,?_,?_,?_,?_,?_,?_,?_,?_,?_,?_,?_,?_,?_,?_,?_,?_,?_,?_,cfg_cnt p⟩ <;> simp only [Plan.cfg]
 ·omega
 ·omega
 ·omega
 ·omega
 ·omega
 ·intro i h;rw [sv_get];exact nm4_ok i
 ·intro i h;rw [sv_get];simp only [svOf];rw [sv_idx p i (by omega)];exact Int.le_refl _
 ·intro i h;rw [sv_get];simp only [svOf];omega
 ·intro i h;rw [sv_get];have:=callsOf_len p.n i (rd_T47 p.ps i).f4 3;simp only [svOf];omega
 ·intro i h nm hnm
  rw [sv_get] at hnm
  obtain ⟨j,h1,h2,rfl⟩:=calls_mem _ _ _ _ _ hnm
  rw [sv_idx p j h2];omega
 ·intro i h
  have:=tm21 p.o0
  have:=tm21 p.o1
  have:=tm21 p.o2
  unfold Plan.offs at h ⊢
  simp only [List.length_cons,List.length_nil] at h
  match i,h with
  | 0,_=>dsimp only [List.getElem_cons_zero];omega
  | 1,_=>dsimp only [List.getElem_cons_zero,List.getElem_cons_succ];omega
  | 2,_=>dsimp only [List.getElem_cons_zero,List.getElem_cons_succ];omega
 ·unfold Plan.offs;simp
 ·intro i h
  unfold Plan.offs at h ⊢
  simp only [List.length_cons,List.length_nil] at h
  match i,h with
  | 0,_=>dsimp only [List.getElem_cons_zero,List.getElem_cons_succ];omega
  | 1,_=>dsimp only [List.getElem_cons_zero,List.getElem_cons_succ];omega
 ·intro i h
  obtain ⟨x,e⟩:=hfg i h
  rw [e]
  simp only [trOf]
  have hm0:=Int.emod_nonneg x.f0 (show ((p.n:Nat):Int) ≠ 0 by omega)
  have hm1:=Int.emod_lt_of_pos x.f0 (show (0:Int) < (p.n:Int) by omega)
  rw [sv_idx p _ (by omega)];omega
 ·intro i h
  obtain ⟨x,e⟩:=hfg i h
  rw [e];exact ver3_ok _
 ·intro i h
  obtain ⟨x,e⟩:=hfg i h
  rw [e];simp only [trOf];omega
 ·intro i h
  obtain ⟨x,e⟩:=hfg i h
  rw [e];simp only [trOf];omega
 all_goals omega
end
theorem eff_l0 (l:List S98) (a:Nat) (ha:a < l.length) (m:List S98) (hm:m.length ≤ 1000) (x y:Int) (d:Nat):∀ i:Nat,i + d = m.length→∃ r,∀ k,d + 1 ≤ k→deployment_effect.l0 k l (a:Int) m (m.length:Int) (i:Int) x y = some r:=by
 induction d with
 | zero=>
  intro i hi
  refine ⟨if x ≥ y then (0,0) else (x,y),fun k hk=>?_⟩
  obtain ⟨k,rfl⟩:∃ q,k = q + 1:=⟨k - 1,by omega⟩
  simp only [deployment_effect.l0]
  rw [if_neg (by omega)]
  split <;> rfl
 | succ d ih=>
  intro i hi
  obtain ⟨r,hr⟩:=ih (i + 1) (by omega)
  by_cases hs:((rd_T98 m (i:Int)).f1 == (rd_T98 l (a:Int)).f1 && ((rd_T98 m (i:Int)).f3.toList == (rd_T98 l (a:Int)).f3.toList && ((rd_T98 m (i:Int)).f4.toList == (rd_T98 l (a:Int)).f4.toList))) = true
  ·refine ⟨if x ≥ (rd_T98 m (i:Int)).f2 then (0,0) else (x,(rd_T98 m (i:Int)).f2),fun k hk=>?_⟩
   obtain ⟨k,rfl⟩:∃ q,k = q + 1:=⟨k - 1,by omega⟩
   simp only [deployment_effect.l0]
   rw [if_pos (by omega),if_pos (by omega),if_pos (by omega)]
   simp only [deployment_subjectOf.f,Option.bind_some]
   rw [if_pos (by omega),if_pos (by omega)]
   simp only [hs,if_true]
   split <;> rfl
  ·refine ⟨r,fun k hk=>?_⟩
   obtain ⟨k,rfl⟩:∃ q,k = q + 1:=⟨k - 1,by omega⟩
   simp only [deployment_effect.l0]
   rw [if_pos (by omega),if_pos (by omega),if_pos (by omega)]
   simp only [deployment_subjectOf.f,Option.bind_some]
   rw [if_pos (by omega),if_pos (by omega)]
   rw [if_neg hs,w1 _ (by omega) (by omega)]
   exact hr k (by omega)
theorem eff_ok (l:List S98) (hl:l.length ≤ 1000) (a:Nat) (ha:a < l.length):∃ r,∀ k,l.length + 1 ≤ k→deployment_effect.f k l (a:Int) = some r:=by
 obtain ⟨r,hr⟩:=eff_l0 l a ha (l.drop (a + 1)) (by simp;omega) (rd_T98 l (a:Int)).f2 1048577 (l.drop (a + 1)).length 0 (by omega)
 refine ⟨r,fun k hk=>?_⟩
 unfold deployment_effect.f
 rw [w1 _ (by omega) (by omega),if_pos (by omega),if_pos (by omega),if_pos (by omega),if_pos (by omega)]
 simp only [Option.bind_some]
 rw [show ((a:Int) + 1).toNat = a + 1 from by omega]
 exact hr k (by simp;omega)
abbrev Act:=Int × Int × Int × ByteArray × ByteArray × ByteArray × Bool
def noAct:Act:=(0,0,0,(⟨#[]⟩:ByteArray),(⟨#[]⟩:ByteArray),(⟨#[]⟩:ByteArray),false)
def isAct (y:S98):Act:=(y.f0,y.f1,y.f2,y.f3,y.f4,y.f5,true)
theorem act_l0 (l:List S98) (hl:l.length ≤ 1000) (name:ByteArray) (slot:Int) (d:Nat):∀ i:Nat,i + d = l.length→
  ∃ r:Act,(∀ k,d + l.length + 2 ≤ k→deployment_Active.l0 k l name slot l (l.length:Int) (i:Int) = some r)∧(r = noAct ∨ ∃ y ∈ l,r = isAct y∧y.f1 = 1):=by
 induction d with
 | zero=>
  intro i hi
  refine ⟨noAct,fun k hk=>?_,.inl rfl⟩
  obtain ⟨k,rfl⟩:∃ q,k = q + 1:=⟨k - 1,by omega⟩
  simp only [deployment_Active.l0]
  rw [if_neg (by omega)]
  rfl
 | succ d ih=>
  intro i hi
  obtain ⟨r,hr,hc⟩:=ih (i + 1) (by omega)
  have e:rd_T98 l (i:Int) = l[i]:=by unfold rd_T98;simp [List.getD_eq_getElem?_getD,show i < l.length by omega]
  obtain ⟨q,hq⟩:=eff_ok l hl i (by omega)
  by_cases h1:l[i].f1 = 1
  ·by_cases h2:l[i].f3.toList = name.toList
   ·by_cases h3:q.1 ≤ slot∧slot < q.2
    ·refine ⟨isAct l[i],fun k hk=>?_,.inr ⟨l[i],List.getElem_mem _,rfl,h1⟩⟩
     obtain ⟨k,rfl⟩:∃ q,k = q + 1:=⟨k - 1,by omega⟩
     simp only [deployment_Active.l0]
     rw [if_pos (by omega),if_pos (by omega),if_pos (by omega),e,if_pos h1,if_pos h2,hq k (by omega)]
     simp only [Option.bind_some,deployment_has.f]
     rw [if_pos h3.1]
     simp only [Option.bind_some]
     rw [if_pos (by simpa using h3.2)]
     rfl
    ·refine ⟨r,fun k hk=>?_,hc⟩
     obtain ⟨k,rfl⟩:∃ q,k = q + 1:=⟨k - 1,by omega⟩
     simp only [deployment_Active.l0]
     rw [if_pos (by omega),if_pos (by omega),if_pos (by omega),e,if_pos h1,if_pos h2,hq k (by omega)]
     simp only [Option.bind_some,deployment_has.f]
     by_cases h4:q.1 ≤ slot
     ·rw [if_pos h4]
      simp only [Option.bind_some]
      rw [if_neg (by simp;omega),w1 _ (by omega) (by omega)]
      exact hr k (by omega)
     ·rw [if_neg h4]
      simp only [Option.bind_some]
      rw [if_neg (by simp),w1 _ (by omega) (by omega)]
      exact hr k (by omega)
   ·refine ⟨r,fun k hk=>?_,hc⟩
    obtain ⟨k,rfl⟩:∃ q,k = q + 1:=⟨k - 1,by omega⟩
    simp only [deployment_Active.l0]
    rw [if_pos (by omega),if_pos (by omega),if_pos (by omega),e,if_pos h1,if_neg h2,w1 _ (by omega) (by omega)]
    exact hr k (by omega)
  ·refine ⟨r,fun k hk=>?_,hc⟩
   obtain ⟨k,rfl⟩:∃ q,k = q + 1:=⟨k - 1,by omega⟩
   simp only [deployment_Active.l0]
   rw [if_pos (by omega),if_pos (by omega),if_pos (by omega),e,if_neg h1,w1 _ (by omega) (by omega)]
   exact hr k (by omega)
def actV (l:List S98) (name:ByteArray) (slot:Int):Act:=(deployment_Active.f 100 l name slot).getD noAct
theorem act_ok (l:List S98) (hl:l.length ≤ 40) (name:ByteArray) (slot:Int):(∀ k,100 ≤ k→deployment_Active.f k l name slot = some (actV l name slot))∧(actV l name slot = noAct ∨ ∃ y ∈ l,actV l name slot = isAct y∧y.f1 = 1):=by
 obtain ⟨r,hr,hc⟩:=act_l0 l (by omega) name slot l.length 0 (by omega)
 have h:∀ k,100 ≤ k→deployment_Active.f k l name slot = some r:=fun k hk=>by
  unfold deployment_Active.f
  exact hr k (by omega)
 have e:actV l name slot = r:=by unfold actV;rw [h 100 (by omega)];rfl
 rw [e]
 exact ⟨h,hc⟩
structure Sys (c:Cfg):Prop where
 n0:1 ≤ c.sv.length
 n4:c.sv.length ≤ 4
 name:∀ i (h:i < c.sv.length),c.sv[i].f0 = nm4 i
 calls:∀ i (h:i < c.sv.length),∀ nm ∈ c.sv[i].f5,∃ j,i < j∧j < c.sv.length∧nm = nm4 j
 clen:∀ i (h:i < c.sv.length),c.sv[i].f5.length ≤ 3
 work:∀ i (h:i < c.sv.length),0 ≤ c.sv[i].f2∧c.sv[i].f2 ≤ 19∧0 ≤ c.sv[i].f3∧c.sv[i].f3 ≤ 9
 fault:∀ x ∈ c.fl,0 ≤ x.f3∧x.f3 ≤ 29
 faults:c.fl.length ≤ 3
 delay0:0 ≤ c.delay
 delay1:c.delay ≤ 5
 chg:c.ch.length ≤ 12
theorem plan_sys (p:Plan) (hok:PlanOk p):Sys (p.cfg chgs47):=by
 have h4:=plan_n4 p
 have h0:=plan_n0 p
 have hl:=sv_len p
 refine ⟨?_,?_,?_,?_,?_,?_,?_,?_,?_,?_,chgs_len _⟩ <;> simp only [Plan.cfg]
 ·omega
 ·omega
 ·intro i h;rw [sv_get];rfl
 ·intro i h nm hnm
  rw [sv_get] at hnm
  obtain ⟨j,h1,h2,rfl⟩:=calls_mem _ _ _ _ _ hnm
  exact ⟨j,h1,by omega,rfl⟩
 ·intro i h;rw [sv_get];exact callsOf_len _ _ _ _
 ·intro i h;rw [sv_get];simp only [svOf];omega
 ·intro x hx
  unfold Plan.flts at hx
  obtain ⟨y,_,rfl⟩:=List.mem_map.mp hx
  simp only [trOf];omega
 ·unfold Plan.flts;simp;omega
 ·omega
 ·omega
theorem smC_take (l:List S51) (hn:∀ i (h:i < l.length),l[i].f0 = nm4 i) (h4:l.length ≤ 4) (k:Nat) (hk:k ≤ l.length):∀ j (hj:j < k),mget (smC (l.take k)) (nm4 j) = some ⟨l[j]'(by omega),none,0⟩:=by
 induction k with
 | zero=>intro j hj;omega
 | succ k ih=>
  intro j hj
  rw [List.take_succ_eq_append_getElem (by omega),smC_snoc]
  rw [hn k (by omega)]
  by_cases h:j = k
  ·subst h
   rw [mget_put_same]
  ·rw [mget_put_other _ _ _ _ (fun e=>h (nm4_inj _ _ (by omega) (by omega) e))]
   exact ih (by omega) j (by omega)
theorem Sys.look {c:Cfg} (hS:Sys c) (j:Nat) (hj:j < c.sv.length):mget (smC c.sv) (nm4 j) = some ⟨c.sv[j],none,0⟩:=by
 have h:=smC_take c.sv hS.name hS.n4 c.sv.length (Nat.le_refl _) j hj
 rwa [List.take_length] at h
theorem Sys.idx {c:Cfg} (hS:Sys c) (j:Nat) (hj:j < c.sv.length):svIdx c.sv (nm4 j) = (j:Int):=by
 have h4:=hS.n4
 unfold svIdx
 refine idxBy_hit _ _ j hj ?_ (fun i hi=>?_)
 ·rw [hS.name];simp
 ·rw [hS.name]
  show ((nm4 i).toList == (nm4 j).toList) = false
  rw [nm4_eq i j (by omega) (by omega)]
  simp;omega
abbrev Res:=Int × Bool × List Sp
def callsI (seed delay t i:Int) (x:S51) (ver:ByteArray) (rec:ByteArray→Int→Int→Nat→Res):List ByteArray→Int→Bool→Nat→Res
 | [],y,fl,_=>(y,fl,[])
 | nm::r,y,fl,len=>
  let q:=rec nm ((len:Int) + 1) (y + delay + rollV seed t ((len:Int) + 1) 2 % (delay + 1)) (len + 1)
  let z:=q.1 + delay + rollV seed t ((len:Int) + 1) 3 % (delay + 1)
  let s:=callsI seed delay t i x ver rec r z (fl || q.2.1) (len + 1 + q.2.2.length)
  (s.1,s.2.1,⟨t,(len:Int) + 1,i,0,x.f1,2,x.f0,ver,strCall,y,z,q.2.1⟩::(q.2.2 ++ s.2.2))
def workV (c:Cfg) (slot t:Int) (sv:S51) (len:Nat):Int × Int:=faultsV sv.f0 (actV c.ch sv.f0 slot).2.2.2.2.2.1 slot c.fl (sv.f2 + rollV c.seed t ((len:Int) + 1) 1 % (sv.f3 + 1)) sv.f4
def serveI (c:Cfg) (slot t:Int):Nat→ByteArray→Int→Int→Nat→Res
 | 0,_,_,_,_=>(0,false,[])
 | d + 1,nm,parent,x,len=>
  let sv:=rd_T51 c.sv (svIdx c.sv nm)
  let ver:=(actV c.ch sv.f0 slot).2.2.2.2.2.1
  let wf:=workV c slot t sv len
  let q:=callsI c.seed c.delay t ((len:Int) + 1) sv ver (serveI c slot t d) sv.f5 (x + wf.1 / 2) (decide (rollV c.seed t ((len:Int) + 1) 4 % 1000000 < wf.2)) (len + 1)
  (q.1 + wf.1 - wf.1 / 2,q.2.1,⟨t,(len:Int) + 1,parent,0,sv.f1,3,sv.f0,ver,strServe,x,q.1 + wf.1 - wf.1 / 2,q.2.1⟩::q.2.2)
def tim:Nat→Int
 | 0=>0
 | d + 1=>200 + 3 * (tim d + 30)
def lng:Nat→Nat
 | 0=>0
 | d + 1=>4 + 3 * lng d
theorem setEnd_snoc (l m:List Sp) (s:Sp) (en:Int) (err:Bool):setEnd (l ++ s::m) l.length en err = l ++ { s with en:=en,err:=err }::m:=by
 unfold setEnd
 rw [List.modify_eq_take_cons_drop (by simp)]
 simp
def RecOk (rec:ByteArray→Int→Int→List Sp→Option (Int × Bool × List Sp)) (recI:ByteArray→Int→Int→Nat→Res) (B:Nat) (T:Int) (nm:ByteArray):Prop:=
 ∀ parent x (l:List Sp),l.length + B ≤ 1000→0 ≤ x→x + T ≤ BIG→
  (rec nm parent x l = some ((recI nm parent x l.length).1,(recI nm parent x l.length).2.1,l ++ (recI nm parent x l.length).2.2))∧x ≤ (recI nm parent x l.length).1∧(recI nm parent x l.length).1 ≤ x + T∧(recI nm parent x l.length).2.2.length ≤ B
theorem calls_eq (seed delay t i:Int) (x:S51) (ver:ByteArray) (rec:ByteArray→Int→Int→List Sp→Option (Int × Bool × List Sp)) (recI:ByteArray→Int→Int→Nat→Res) (B:Nat) (T:Int) (hd0:0 ≤ delay) (hd1:delay ≤ 5) (hT:0 ≤ T):
  ∀ (cl:List ByteArray),(∀ nm ∈ cl,RecOk rec recI B T nm)→∀ (y:Int) (fl:Bool) (l:List Sp),l.length + cl.length * (1 + B) ≤ 1000→0 ≤ y→y + (cl.length:Int) * (T + 30) ≤ BIG→
   (callsV seed delay t i x ver rec cl y fl l = some ((callsI seed delay t i x ver recI cl y fl l.length).1,(callsI seed delay t i x ver recI cl y fl l.length).2.1,l ++ (callsI seed delay t i x ver recI cl y fl l.length).2.2))∧y ≤ (callsI seed delay t i x ver recI cl y fl l.length).1∧(callsI seed delay t i x ver recI cl y fl l.length).1 ≤ y + (cl.length:Int) * (T + 30)∧(callsI seed delay t i x ver recI cl y fl l.length).2.2.length ≤ cl.length * (1 + B):=by
 intro cl
 induction cl with
 | nil=>intro _ y fl l _ h0 _;simp [callsV,callsI]
 | cons nm r ih=>
  intro hrec y fl l hl h0 hy
  simp only [List.length_cons] at hl hy ⊢
  have m1:(r.length + 1) * (1 + B) = r.length * (1 + B) + (1 + B):=Nat.succ_mul _ _
  have m2:((r.length + 1:Nat):Int) * (T + 30) = (r.length:Int) * (T + 30) + (T + 30):=by
   rw [Int.natCast_add,Int.add_mul];simp
  have m3:0 ≤ (r.length:Int) * (T + 30):=Int.mul_nonneg (by omega) (by omega)
  rw [m1] at hl ⊢
  rw [m2] at hy ⊢
  have hih:=ih (fun nm hnm=>hrec nm (by simp [hnm]))
  clear ih m1 m2
  generalize r.length * (1 + B) = P at hl hih ⊢
  generalize (r.length:Int) * (T + 30) = Q at hy m3 hih ⊢
  have r2:=Int.emod_nonneg (rollV seed t ((l.length:Int) + 1) 2) (show delay + 1 ≠ 0 by omega)
  have r2':=Int.emod_lt_of_pos (rollV seed t ((l.length:Int) + 1) 2) (show 0 < delay + 1 by omega)
  have r3:=Int.emod_nonneg (rollV seed t ((l.length:Int) + 1) 3) (show delay + 1 ≠ 0 by omega)
  have r3':=Int.emod_lt_of_pos (rollV seed t ((l.length:Int) + 1) 3) (show 0 < delay + 1 by omega)
  obtain ⟨h1,h2,h3,h4⟩:=hrec nm (by simp) ((l.length:Int) + 1) (y + delay + rollV seed t ((l.length:Int) + 1) 2 % (delay + 1)) (l ++ [⟨t,(l.length:Int) + 1,i,0,x.f1,2,x.f0,ver,strCall,y,0,false⟩]) (by simp only [List.length_append,List.length_singleton];omega) (by omega) (by omega)
  rw [show (l ++ [(⟨t,(l.length:Int) + 1,i,0,x.f1,2,x.f0,ver,strCall,y,0,false⟩:Sp)]).length = l.length + 1 from by simp] at h1 h2 h3 h4
  simp only [callsV,callsI]
  generalize recI nm ((l.length:Int) + 1) (y + delay + rollV seed t ((l.length:Int) + 1) 2 % (delay + 1)) (l.length + 1) = q at h1 h2 h3 h4 ⊢
  obtain ⟨q1,q2,q3⟩:=q
  dsimp only at h1 h2 h3 h4 ⊢
  rw [if_pos ⟨by omega,h0,by omega⟩,h1]
  simp only [Option.bind_some]
  rw [if_pos ⟨by omega,by omega,by simp⟩]
  rw [List.append_assoc,List.singleton_append,setEnd_snoc]
  have hlen:(l ++ (⟨t,(l.length:Int) + 1,i,0,x.f1,2,x.f0,ver,strCall,y,q1 + delay + rollV seed t ((l.length:Int) + 1) 3 % (delay + 1),q2⟩:Sp)::q3).length = l.length + 1 + q3.length:=by simp;omega
  obtain ⟨g1,g2,g3,g4⟩:=hih (q1 + delay + rollV seed t ((l.length:Int) + 1) 3 % (delay + 1)) (fl || q2) (l ++ (⟨t,(l.length:Int) + 1,i,0,x.f1,2,x.f0,ver,strCall,y,q1 + delay + rollV seed t ((l.length:Int) + 1) 3 % (delay + 1),q2⟩:Sp)::q3) (by rw [hlen];omega) (by omega) (by omega)
  rw [hlen] at g1 g2 g3 g4
  refine ⟨?_,by omega,by omega,by simp only [List.length_cons,List.length_append];omega⟩
  rw [g1]
  simp
theorem faults_bound (name ver:ByteArray) (slot:Int) (l:List S61) (hl:∀ x ∈ l,0 ≤ x.f3∧x.f3 ≤ 29) (hn:l.length ≤ 3):∀ w f,0 ≤ w→w + 29 * (l.length:Int) ≤ 1000→w ≤ (faultsV name ver slot l w f).1∧(faultsV name ver slot l w f).1 ≤ w + 29 * l.length:=by
 induction l with
 | nil=>intro w f h0 h1;simp [faultsV]
 | cons x r ih=>
  intro w f h0 h1
  obtain ⟨a,b⟩:=hl x (by simp)
  simp only [List.length_cons] at hn h1 ⊢
  have hw:wrap64 (w + x.f3) = w + x.f3:=by unfold wrap64;omega
  have ih':=ih (fun y hy=>hl y (by simp [hy])) (by omega)
  simp only [faultsV]
  split
  ·rw [hw]
   have:=ih' (w + x.f3) (wrap64 (f + x.f4)) (by omega) (by omega)
   omega
  ·have:=ih' w f h0 (by omega)
   omega
theorem Sys.workV {c:Cfg} (hS:Sys c) (slot t:Int) (j:Nat) (hj:j < c.sv.length) (len:Nat):0 ≤ (workV c slot t c.sv[j] len).1∧(workV c slot t c.sv[j] len).1 ≤ 200:=by
 obtain ⟨a,b,e,d⟩:=hS.work j hj
 have r:=Int.emod_nonneg (rollV c.seed t ((len:Int) + 1) 1) (show c.sv[j].f3 + 1 ≠ 0 by omega)
 have r':=Int.emod_lt_of_pos (rollV c.seed t ((len:Int) + 1) 1) (show 0 < c.sv[j].f3 + 1 by omega)
 have:=faults_bound c.sv[j].f0 (actV c.ch c.sv[j].f0 slot).2.2.2.2.2.1 slot c.fl hS.fault hS.faults (c.sv[j].f2 + rollV c.seed t ((len:Int) + 1) 1 % (c.sv[j].f3 + 1)) c.sv[j].f4 (by omega) (by have:=hS.faults;omega)
 have hf:=hS.faults
 unfold P.workV
 omega
theorem tim_pos (d:Nat):0 ≤ tim d:=by
 induction d with
 | zero=>simp [tim]
 | succ d ih=>simp only [tim];omega
theorem serve_eq (c:Cfg) (hS:Sys c) (slot t:Int) (d:Nat):∀ j,j < c.sv.length→c.sv.length ≤ j + d→∀ m,100 + d ≤ m→RecOk (serveV c slot t (smC c.sv) m) (serveI c slot t d) (lng d) (tim d) (nm4 j):=by
 induction d with
 | zero=>intro j hj hd;omega
 | succ d ih=>
  intro j hj hd m hm parent x l hl h0 hx
  obtain ⟨m,rfl⟩:∃ q,m = q + 1:=⟨m - 1,by omega⟩
  have hw:=hS.workV slot t j hj l.length
  have hwk:=hS.work j hj
  have hcl:=hS.clen j hj
  have hT:=tim_pos d
  have hac:=(act_ok c.ch (by have:=hS.chg;omega) c.sv[j].f0 slot).1 m (by omega)
  have hr:rd_T51 c.sv (svIdx c.sv (nm4 j)) = c.sv[j]:=by rw [hS.idx j hj];exact rd64 _ _ hj
  have hnm:=hS.name j hj
  have hb1:c.sv[j].f5.length * (1 + lng d) ≤ 3 * (1 + lng d):=Nat.mul_le_mul_right _ hcl
  have hb2:(c.sv[j].f5.length:Int) * (tim d + 30) ≤ 3 * (tim d + 30):=Int.mul_le_mul_of_nonneg_right (by omega) (by omega)
  simp only [tim,lng] at hl hx ⊢
  have hc:=calls_eq c.seed c.delay t ((l.length:Int) + 1) c.sv[j] (actV c.ch c.sv[j].f0 slot).2.2.2.2.2.1 (serveV c slot t (smC c.sv) m) (serveI c slot t d) (lng d) (tim d) hS.delay0 hS.delay1 hT c.sv[j].f5
   (fun nm hnm=>by
    obtain ⟨i,h1,h2,rfl⟩:=hS.calls j hj nm hnm
    exact ih i h2 (by omega) m (by omega))
   (x + (workV c slot t c.sv[j] l.length).1 / 2) (decide (rollV c.seed t ((l.length:Int) + 1) 4 % 1000000 < (workV c slot t c.sv[j] l.length).2))
   (l ++ [⟨t,(l.length:Int) + 1,parent,0,c.sv[j].f1,3,c.sv[j].f0,(actV c.ch c.sv[j].f0 slot).2.2.2.2.2.1,strServe,x,0,false⟩]) (by simp only [List.length_append,List.length_singleton];omega) (by omega) (by omega)
  rw [show (l ++ [(⟨t,(l.length:Int) + 1,parent,0,c.sv[j].f1,3,c.sv[j].f0,(actV c.ch c.sv[j].f0 slot).2.2.2.2.2.1,strServe,x,0,false⟩:Sp)]).length = l.length + 1 from by simp] at hc
  simp only [serveV,serveI,hS.look j hj,Option.bind_some,hr]
  rw [← hnm,hac]
  simp only [Option.bind_some]
  have hW:faultsV c.sv[j].f0 (actV c.ch c.sv[j].f0 slot).2.2.2.2.2.1 slot c.fl (c.sv[j].f2 + rollV c.seed t ((l.length:Int) + 1) 1 % (c.sv[j].f3 + 1)) c.sv[j].f4 = workV c slot t c.sv[j] l.length:=rfl
  rw [hW]
  generalize workV c slot t c.sv[j] l.length = wf at hw hc ⊢
  generalize callsI c.seed c.delay t ((l.length:Int) + 1) c.sv[j] (actV c.ch c.sv[j].f0 slot).2.2.2.2.2.1 (serveI c slot t d) c.sv[j].f5 (x + wf.1 / 2) (decide (rollV c.seed t ((l.length:Int) + 1) 4 % 1000000 < wf.2)) (l.length + 1) = q at hc ⊢
  obtain ⟨q1,q2,q3⟩:=q
  obtain ⟨wf1,wf2⟩:=wf
  dsimp only at hc hw ⊢
  obtain ⟨g1,g2,g3,g4⟩:=hc
  rw [if_pos ⟨by omega,h0,by omega,by omega,by omega,by omega,by omega⟩,if_pos ⟨by omega,by omega⟩,g1]
  simp only [Option.bind_some]
  rw [if_pos ⟨by omega,by omega,by simp⟩]
  rw [List.append_assoc,List.singleton_append,setEnd_snoc]
  refine ⟨rfl,by omega,by omega,by simp only [List.length_cons];omega⟩
end Go.Proofs.YtdadnapfecmmdaaGreat.P
namespace Go.Proofs.YtdadnapfecmmdaaGreat.P
open Go.RowKit Go.Proofs.YtdadnapfecmmdaaGreatW.PrintWords Go.Proofs.YtdadnapfecmmdaaGreatW.PrintLast Go.Proofs.YtdadnapfecmmdaaGreatW.PrintMore
attribute [local go_sem] max2_int min2_int max_two min_two max_three min_three max_four min_four   -- for this text's walks alone
set_option linter.unusedVariables false
set_option linter.unusedSimpArgs false
def sleuthlaw55_roll.f (a0_0:Int) (l0_1:List (S51)) (l0_2:List (S54)) (l0_3:List (S98)) (l0_4:List (S61)) (a0_5:Int) (a0_6:Int) (a0_7:Int) (a0_8:Int) (a0_9:Int) (a0_10:Int) (a0_11:Int) (a1:Int) (a2:Int) (a3:Int):Option (Int):=(checksum_Mix.f a0_0 a1).bind fun t117=>((checksum_Mix.f t117 a2).bind fun t118=>((checksum_Mix.f t118 a3).bind fun t119=>(some t119)))
set_option maxHeartbeats 8000000 in
set_option maxRecDepth 100000 in
theorem sleuthlaw55_roll.calls (a0_0:Int) (A0_1:Option Addr) (c0_1:Nat) (l0_1:List (S51)) (A0_2:Option Addr) (c0_2:Nat) (l0_2:List (S54)) (A0_3:Option Addr) (c0_3:Nat) (l0_3:List (S98)) (A0_4:Option Addr) (c0_4:Nat) (l0_4:List (S61)) (a0_5:Int) (a0_6:Int) (a0_7:Int) (a0_8:Int) (a0_9:Int) (a0_10:Int) (a0_11:Int) (a1:Int) (a2:Int) (a3:Int) (r:Int) (w:World) (hr0_1:Kd.C k51 w A0_1 l0_1.length l0_1) (hc0_1:l0_1.length ≤ c0_1) (hr0_2:Kd.C k54 w A0_2 l0_2.length l0_2) (hc0_2:l0_2.length ≤ c0_2) (hr0_3:Kd.C k98 w A0_3 l0_3.length l0_3) (hc0_3:l0_3.length ≤ c0_3) (hr0_4:Kd.C k61 w A0_4 l0_4.length l0_4) (hc0_4:l0_4.length ≤ c0_4) (h:sleuthlaw55_roll.f a0_0 l0_1 l0_2 l0_3 l0_4 a0_5 a0_6 a0_7 a0_8 a0_9 a0_10 a0_11 a1 a2 a3 = some r):
  Calls Tryz.prog 27 #[.agg #[.int .i64 a0_0,.slice A0_1 l0_1.length c0_1,.slice A0_2 l0_2.length c0_2,.slice A0_3 l0_3.length c0_3,.slice A0_4 l0_4.length c0_4,.int .i64 a0_5,.int .i64 a0_6,.int .i64 a0_7,.int .i64 a0_8,.int .i64 a0_9,.int .i64 a0_10,.int .i64 a0_11],.int .i64 a1,.int .i64 a2,.int .i64 a3] w fun e w'=>e = .returned (.int .i64 r)∧Below w.heap.size w w':=by
 have hu36:=Tryz.underlying36
 have HR0_1:=Aside0.mk hr0_1
 have HC0_1:=Aside0.mk hc0_1
 clear hr0_1 hc0_1
 have HR0_2:=Aside0.mk hr0_2
 have HC0_2:=Aside0.mk hc0_2
 clear hr0_2 hc0_2
 have HR0_3:=Aside0.mk hr0_3
 have HC0_3:=Aside0.mk hc0_3
 clear hr0_3 hc0_3
 have HR0_4:=Aside0.mk hr0_4
 have HC0_4:=Aside0.mk hc0_4
 clear hr0_4 hc0_4
 have HB:=Aside0.mk (Below.refl w.heap.size w)
 have H:((checksum_Mix.f a0_0 a1).bind fun t117=>((checksum_Mix.f t117 a2).bind fun t118=>((checksum_Mix.f t118 a3).bind fun t119=>(some t119)))) = some r:=h
 clear h
 replace H:=Option.bind_eq_some_iff.mp H
 obtain ⟨t117,A50,H⟩:=H
 replace H:((checksum_Mix.f t117 a2).bind fun t118=>((checksum_Mix.f t118 a3).bind fun t119=>(some t119))) = some r:=H
 have A5:=Aside0.mk A50
 clear A50
 replace H:=Option.bind_eq_some_iff.mp H
 obtain ⟨t118,A60,H⟩:=H
 replace H:((checksum_Mix.f t118 a3).bind fun t119=>(some t119)) = some r:=H
 have A6:=Aside0.mk A60
 clear A60
 replace H:=Option.bind_eq_some_iff.mp H
 obtain ⟨t119,A70,H⟩:=H
 replace H:(some t119) = some r:=H
 have A7:=Aside0.mk A70
 clear A70
 obtain rfl:=Option.some.inj H
 go_enter Tryz.func27,Tryz.ntmps27
 go_wp2_with (first | ((with_reducible refine gate_dst (N:=4) rfl ?_);refine box_event ?hg (N:=4) ?hd (cs:=#[.int .i64 a0_0,.slice A0_1 l0_1.length c0_1,.slice A0_2 l0_2.length c0_2,.slice A0_3 l0_3.length c0_3,.slice A0_4 l0_4.length c0_4,.int .i64 a0_5,.int .i64 a0_6,.int .i64 a0_7,.int .i64 a0_8,.int .i64 a0_9,.int .i64 a0_10,.int .i64 a0_11]) (t:=36) ?hr ?_;(case hd=>rfl);(case hg=>rfl);(case hr=>first | (go_simp;done) | (go_simp;rfl));intro gb116 hg w8 hbox hb;have n0_:=Aside0.mk (below_step (by repeat (first | (with_reducible first | exact HB.out | apply below_alloc | apply pw_below_drewN | apply below_drew1) | exact HB.out)) hb);have n1_:=Aside0.mk (hbox);have n2_:=Aside0.mk ((by rw [hg];exact (below_size (by repeat (first | (with_reducible first | exact HB.out | apply below_alloc | apply pw_below_drewN | apply below_drew1) | exact HB.out))):w.heap.size ≤ gb116));have n3_:=Aside0.mk ((by rw [hg];exact (below_size (by repeat (first | (with_reducible first | exact HB.out | apply below_alloc | apply pw_below_drewN | apply below_drew1) | exact HB.out))):w.heap.size ≤ gb116));clear HB;have HB:=n0_;have BK116:=n1_;have GW116:=n2_;have GE116:=n3_;clear n0_ n1_ n2_ n3_;clear hb hbox hg;have hcz9_0:w8.cell? ⟨gb116,0,none⟩ = some (.int .i64 a0_0):=(blk_cell BK116.out 0).trans rfl;have hcz9_1:w8.cell? ⟨gb116,1,none⟩ = some (.slice A0_1 l0_1.length c0_1):=(blk_cell BK116.out 1).trans rfl;have hcz9_2:w8.cell? ⟨gb116,2,none⟩ = some (.slice A0_2 l0_2.length c0_2):=(blk_cell BK116.out 2).trans rfl;have hcz9_3:w8.cell? ⟨gb116,3,none⟩ = some (.slice A0_3 l0_3.length c0_3):=(blk_cell BK116.out 3).trans rfl;have hcz9_4:w8.cell? ⟨gb116,4,none⟩ = some (.slice A0_4 l0_4.length c0_4):=(blk_cell BK116.out 4).trans rfl;have hcz9_5:w8.cell? ⟨gb116,5,none⟩ = some (.int .i64 a0_5):=(blk_cell BK116.out 5).trans rfl;have hcz9_6:w8.cell? ⟨gb116,6,none⟩ = some (.int .i64 a0_6):=(blk_cell BK116.out 6).trans rfl;have hcz9_7:w8.cell? ⟨gb116,7,none⟩ = some (.int .i64 a0_7):=(blk_cell BK116.out 7).trans rfl;have hcz9_8:w8.cell? ⟨gb116,8,none⟩ = some (.int .i64 a0_8):=(blk_cell BK116.out 8).trans rfl;have hcz9_9:w8.cell? ⟨gb116,9,none⟩ = some (.int .i64 a0_9):=(blk_cell BK116.out 9).trans rfl;have hcz9_10:w8.cell? ⟨gb116,10,none⟩ = some (.int .i64 a0_10):=(blk_cell BK116.out 10).trans rfl;have hcz9_11:w8.cell? ⟨gb116,11,none⟩ = some (.int .i64 a0_11):=(blk_cell BK116.out 11).trans rfl;have hfz9_0:=blk_frozen BK116.out 0;have hfz9_1:=blk_frozen BK116.out 1;have hfz9_2:=blk_frozen BK116.out 2;have hfz9_3:=blk_frozen BK116.out 3;have hfz9_4:=blk_frozen BK116.out 4;have hfz9_5:=blk_frozen BK116.out 5;have hfz9_6:=blk_frozen BK116.out 6;have hfz9_7:=blk_frozen BK116.out 7;have hfz9_8:=blk_frozen BK116.out 8;have hfz9_9:=blk_frozen BK116.out 9;have hfz9_10:=blk_frozen BK116.out 10;have hfz9_11:=blk_frozen BK116.out 11) | ((with_reducible refine gate_callee (f:=36) rfl ?_);refine goesL_ (some 12) rfl rfl Tryz.func36 (by kernel_rfl) rfl #[.int .i64 a0_0,.int .i64 a1] rfl (by (try simp only [List.map_toArray,List.map_cons,List.map_nil]);first | done | rfl | (simp only [List.length_drop,List.length_take];rfl)) ?_;(with_reducible refine (checksum_Mix.calls a0_0 a1 t117 _ A5.out).mono ?_);rintro e w' ⟨rfl,⟨nd,rfl⟩⟩;refine ⟨_,rfl,?_⟩) | ((with_reducible refine gate_callee (f:=36) rfl ?_);refine goesL_ (some 14) rfl rfl Tryz.func36 (by kernel_rfl) rfl #[.int .i64 t117,.int .i64 a2] rfl (by (try simp only [List.map_toArray,List.map_cons,List.map_nil]);first | done | rfl | (simp only [List.length_drop,List.length_take];rfl)) ?_;(with_reducible refine (checksum_Mix.calls t117 a2 t118 _ A6.out).mono ?_);rintro e w' ⟨rfl,⟨nd,rfl⟩⟩;refine ⟨_,rfl,?_⟩) | ((with_reducible refine gate_callee (f:=36) rfl ?_);refine goesL_ (some 16) rfl rfl Tryz.func36 (by kernel_rfl) rfl #[.int .i64 t118,.int .i64 a3] rfl (by (try simp only [List.map_toArray,List.map_cons,List.map_nil]);first | done | rfl | (simp only [List.length_drop,List.length_take];rfl)) ?_;(with_reducible refine (checksum_Mix.calls t118 a3 t119 _ A7.out).mono ?_);rintro e w' ⟨rfl,⟨nd,rfl⟩⟩;refine ⟨_,rfl,?_⟩))
 go_ret
 exact ⟨by first | rfl | (simp [errW_none,errW_some] <;> rfl) | (simp [*,errW_none,errW_some] <;> rfl),by repeat (first | (with_reducible first | exact HB.out | apply below_alloc | apply pw_below_drewN | apply below_drew1 | refine below_set ?_ GE116.out) | exact HB.out)⟩
def span_Slot.f (a0:Int):Option (Int):=some (a0 / 1048576)
set_option maxHeartbeats 8000000 in
set_option maxRecDepth 100000 in
theorem span_Slot.calls (a0:Int) (r:Int) (w:World) (h:span_Slot.f a0 = some r):
  Calls Tryz.prog 68 #[.int .i64 a0] w fun e w'=>e = .returned (.int .i64 r)∧Drawn0 w w':=by
 have H:(some (a0 / 1048576)) = some r:=h
 clear h
 obtain rfl:=Option.some.inj H
 go_enter Tryz.func68,Tryz.ntmps68
 go_wp2
 go_ret
 exact ⟨by first | rfl | (simp;done) | (simp [*];done),by repeat (first | exact Drawn0.refl _ | apply Drawn0.step)⟩
end Go.Proofs.YtdadnapfecmmdaaGreat.P
namespace Go.Proofs.YtdadnapfecmmdaaGreat.P
set_option linter.unusedVariables false
set_option linter.unusedSimpArgs false
open Go.RowKit Go.Proofs.YtdadnapfecmmdaaGreatW.PrintWords Go.Proofs.YtdadnapfecmmdaaGreatW.PrintLast Go.Proofs.YtdadnapfecmmdaaGreatW.PrintMore
open Go.Proofs.YtdadnapfecmmdaaGreat.Hm
def bz (n m:Nat):Array Bool:=((List.range n).map m.testBit).toArray
theorem mroll_some (c:Cfg) (a b d:Int):sleuthlaw55_roll.f c.seed c.sv c.off c.ch c.fl c.sfrom c.sto c.per c.delay c.chunk c.loss c.rep a b d = some (rollV c.seed a b d):=by
 unfold sleuthlaw55_roll.f
 simp only [mix_some,Option.bind_some]
 unfold rollV
 with_reducible rfl
theorem mroll_calls (c:Cfg) (p:CfgAt) (a b d:Int) (w:World) (hR:CfgR w p c):Calls Tryz.prog 27 #[c.val p,.int .i64 a,.int .i64 b,.int .i64 d] w fun e w'=>e = .returned (.int .i64 (rollV c.seed a b d))∧Below w.heap.size w w':=
 sleuthlaw55_roll.calls _ _ _ _ _ _ _ _ _ _ _ _ _ _ _ _ _ _ _ _ _ _ _ _ w hR.r1 hR.l1 hR.r2 hR.l2 hR.r3 hR.l3 hR.r4 hR.l4 (mroll_some c a b d)
abbrev mkCells (c:Cfg) (p:CfgAt) (t:Int) (v:Value):Array Value:=#[.int .i64 c.seed,.slice p.A1 c.sv.length p.c1,.slice p.A2 c.off.length p.c2,.slice p.A3 c.ch.length p.c3,.slice p.A4 c.fl.length p.c4,.int .i64 c.sfrom,.int .i64 c.sto,.int .i64 c.per,.int .i64 c.delay,.int .i64 c.chunk,.int .i64 c.loss,.int .i64 c.rep,.int .i64 t,v]
structure MkAt (W:World) (gm base:Nat) (c:Cfg) (p:CfgAt) (t:Int) (l:List Sp) (v:Value):Prop where
 blk:W.heap[gm]? = some (.cells (mkCells c p t v) 115 (0,0))
 own:W.ownsRow base 74 14 v l.length (spc l)
section
variable {W W1 W2 W':World} {gm base:Nat} {c:Cfg} {p:CfgAt} {t:Int} {l:List Sp} {v v1 v2:Value}
theorem MkAt.below (h:MkAt W gm base c p t l v) (hb:Below W.heap.size W W'):MkAt W' gm base c p t l v:=⟨blk_below h.blk hb,pw_own_below h.own hb⟩
theorem MkAt.lt (h:MkAt W gm base c p t l v):gm < W.heap.size:=blk_lt h.blk
theorem MkAt.nm (h:MkAt W gm base c p t l v):some gm ≠ v.ownBlock:=own_ne h.own h.blk (by decide)
structure KeepM (W:World) (v:Value) (W':World) (v':Value) (gm:Nat):Prop where
 size:W.heap.size ≤ W'.heap.size
 blk:∀ i,i < W.heap.size→i ≠ gm→some i ≠ v.ownBlock→W'.heap[i]? = W.heap[i]?
 at_:v'.ownBlock = v.ownBlock ∨ ∃ b,v'.ownBlock = some b∧W.heap.size ≤ b
theorem KeepM.refl:KeepM W v W v gm:=⟨Nat.le_refl _,fun _ _ _ _=>rfl,.inl rfl⟩
theorem KeepM.ne (h:KeepM W v W' v1 gm) {i:Nat} (hi:i < W.heap.size) (hn:some i ≠ v.ownBlock):some i ≠ v1.ownBlock:=by
 rcases h.at_ with e | ⟨b,e,hb⟩
 ·rw [e];exact hn
 ·rw [e]
  intro e2
  injection e2 with e2
  omega
theorem KeepM.trans (h:KeepM W v W1 v1 gm) (k:KeepM W1 v1 W2 v2 gm):KeepM W v W2 v2 gm:=by
 refine ⟨Nat.le_trans h.size k.size,fun i hi hg hn=>?_,?_⟩
 ·rw [k.blk i (Nat.lt_of_lt_of_le hi h.size) hg (h.ne hi hn),h.blk i hi hg hn]
 ·rcases k.at_ with e | ⟨b,e,hb⟩
  ·rw [e];exact h.at_
  ·exact .inr ⟨b,e,Nat.le_trans h.size hb⟩
theorem KeepM.of_below (h:Below W.heap.size W W'):KeepM W v W' v gm:=⟨h.size,fun i hi _ _=>h.block i hi,.inl rfl⟩
theorem KeepM.keep {b:Nat} {o:Obj} (h:KeepM W v W' v1 gm) (hb:W.heap[b]? = some o) (hg:b ≠ gm) (hn:some b ≠ v.ownBlock):W'.heap[b]? = some o:=(h.blk b (blk_lt hb) hg hn).trans hb
theorem KeepM.other {b:Nat} {cs:Array Value} {ty:TypeId} (h:KeepM W v W' v1 gm) (hm:MkAt W gm base c p t l v) (hb:W.heap[b]? = some (.cells cs ty (0,0))) (hg:b ≠ gm) (ht:74 ≠ ty):W'.heap[b]? = some (.cells cs ty (0,0)):=
 h.keep hb hg (own_ne hm.own hb ht)
theorem MkAt.opened (h:MkAt W gm base c p t l v) (j:Nat) (hj:j < l.length):∃ r cp,v = .slice (some ⟨r,0,none⟩) l.length cp∧
  W.cell? ⟨r,j * 14 + 10,none⟩ = some (.int .i64 l[j].en)∧W.cell? ⟨r,j * 14 + 11,none⟩ = some (.bool l[j].err)∧W.frozen? ⟨r,j * 14 + 10,none⟩ = false∧W.frozen? ⟨r,j * 14 + 11,none⟩ = false∧base ≤ r∧gm ≠ r:=by
 rcases h.own.2 with ⟨_,h2⟩ | ⟨r,cap,cur,e,hb,hr,h1,h2,h3,h4⟩
 ·omega
 ·have hne:=h.nm
  subst e
  have hc:∀ i,i < l.length * 14→cur[i]? = (spc l)[i]?:=fun i hi=>by
   rw [← h4,List.getElem?_take,if_pos hi,Array.getElem?_toList]
  refine ⟨r,cap,rfl,?_,?_,blk_frozen hr _,blk_frozen hr _,hb,fun e=>hne (by rw [e];rfl)⟩
  ·rw [blk_cell hr,hc _ (by omega),spc_get l j 10 hj (by omega)]
   rfl
  ·rw [blk_cell hr,hc _ (by omega),spc_get l j 11 hj (by omega)]
   rfl
theorem MkAt.stores {r cp:Nat} (h:MkAt W gm base c p t l (.slice (some ⟨r,0,none⟩) l.length cp)) (hne:gm ≠ r) (j:Nat) (hj:j < l.length) (en:Int) (err:Bool):
  MkAt ((W.setCell ⟨r,j * 14 + 10,none⟩ (.int .i64 en)).setCell ⟨r,j * 14 + 11,none⟩ (.bool err)) gm base c p t (setEnd l j en err) (.slice (some ⟨r,0,none⟩) l.length cp):=by
 have ho:=h.own
 rcases ho.2 with ⟨h2,_⟩ | ⟨r',cap,cur,e,hb,hr,h1,h2,h3,h4⟩
 ·cases h2
 ·obtain ⟨o1,g1⟩:=ho.stored (j * 14 + 10) (.int .i64 en)
  obtain ⟨o2,g2⟩:=o1.stored (j * 14 + 11) (.bool err)
  rw [spc_set l j 10 (.int .i64 en) { l[j] with en:=en } hj (by omega) rfl] at o1 o2
  rw [spc_set (l.set j { l[j] with en:=en }) j 11 (.bool err) { l[j] with en:=en,err:=err } (by simpa using hj) (by omega) (by simp [Sp.cells])] at o2
  refine ⟨?_,?_⟩
  ·rw [Below.heap_setCell _ _ _ _ hne,Below.heap_setCell _ _ _ _ hne]
   exact h.blk
  ·rw [setEnd_len,setEnd_eq l j en err hj]
   simpa using o2
theorem KeepM.stores {r n cp:Nat} (i j:Nat) (u x:Value):KeepM W (.slice (some ⟨r,0,none⟩) n cp) ((W.setCell ⟨r,i,none⟩ u).setCell ⟨r,j,none⟩ x) (.slice (some ⟨r,0,none⟩) n cp) gm:=by
 refine ⟨by simp,fun k _ _ hn=>?_,.inl rfl⟩
 have hne:k ≠ r:=fun e=>hn (by rw [e];rfl)
 rw [Below.heap_setCell _ _ _ _ hne,Below.heap_setCell _ _ _ _ hne]
theorem MkAt.grow (h:MkAt W gm base c p t l v) {s:Sp} (ho:W1.ownsRow base 74 14 v1 (l.length + 1) (spc l ++ s.cells)) (hg:W.grownBy W1 v.ownBlock):
  MkAt (W1.setCell ⟨gm,13,none⟩ v1) gm base c p t (l ++ [s]) v1:=by
 have hb:W1.heap[gm]? = some (.cells (mkCells c p t v) 115 (0,0)):=blk_grown h.blk hg h.nm
 have hne:some gm ≠ v1.ownBlock:=own_ne ho hb (by decide)
 refine ⟨?_,?_⟩
 ·have:=blk_set hb 13 v1
  simpa using this
 ·rw [spc_snoc,List.length_append,List.length_singleton]
  exact own_setCell ho hne _
theorem KeepM.grow (hg:W.grownBy W1 v.ownBlock) (hat:v1.ownBlock = v.ownBlock ∨ ∃ b,v1.ownBlock = some b∧W.heap.size ≤ b):KeepM W v (W1.setCell ⟨gm,13,none⟩ v1) v1 gm:=
 ⟨by simpa using hg.size,fun i hi hi2 hn=>by rw [Below.heap_setCell _ _ _ i hi2];exact hg.block i hi hn,hat⟩
end
theorem fill14 {W:World} {g:Nat} {ty:TypeId} {z0 z1 z2 z3 z4 z5 z6 z7 z8 z9 z10 z11 z12 z13:Value} (h:W.heap[g]? = some (.cells #[z0,z1,z2,z3,z4,z5,z6,z7,z8,z9,z10,z11,z12,z13] ty (0,0))) (v0 v1 v2 v3 v4 v5 v6 v7 v8 v9 v10 v11 v12 v13:Value):
  ((((((((((((((W.setCell ⟨g,0,none⟩ v0).setCell ⟨g,1,none⟩ v1).setCell ⟨g,2,none⟩ v2).setCell ⟨g,3,none⟩ v3).setCell ⟨g,4,none⟩ v4).setCell ⟨g,5,none⟩ v5).setCell ⟨g,6,none⟩ v6).setCell ⟨g,7,none⟩ v7).setCell ⟨g,8,none⟩ v8).setCell ⟨g,9,none⟩ v9).setCell ⟨g,10,none⟩ v10).setCell ⟨g,11,none⟩ v11).setCell ⟨g,12,none⟩ v12).setCell ⟨g,13,none⟩ v13).heap[g]? = some (.cells #[v0,v1,v2,v3,v4,v5,v6,v7,v8,v9,v10,v11,v12,v13] ty (0,0)):=by
 have h0:=blk_set h 0 v0
 simp only [List.setIfInBounds_toArray,List.set_cons_zero,List.set_cons_succ] at h0
 have h1:=blk_set h0 1 v1
 simp only [List.setIfInBounds_toArray,List.set_cons_zero,List.set_cons_succ] at h1
 have h2:=blk_set h1 2 v2
 simp only [List.setIfInBounds_toArray,List.set_cons_zero,List.set_cons_succ] at h2
 have h3:=blk_set h2 3 v3
 simp only [List.setIfInBounds_toArray,List.set_cons_zero,List.set_cons_succ] at h3
 have h4:=blk_set h3 4 v4
 simp only [List.setIfInBounds_toArray,List.set_cons_zero,List.set_cons_succ] at h4
 have h5:=blk_set h4 5 v5
 simp only [List.setIfInBounds_toArray,List.set_cons_zero,List.set_cons_succ] at h5
 have h6:=blk_set h5 6 v6
 simp only [List.setIfInBounds_toArray,List.set_cons_zero,List.set_cons_succ] at h6
 have h7:=blk_set h6 7 v7
 simp only [List.setIfInBounds_toArray,List.set_cons_zero,List.set_cons_succ] at h7
 have h8:=blk_set h7 8 v8
 simp only [List.setIfInBounds_toArray,List.set_cons_zero,List.set_cons_succ] at h8
 have h9:=blk_set h8 9 v9
 simp only [List.setIfInBounds_toArray,List.set_cons_zero,List.set_cons_succ] at h9
 have h10:=blk_set h9 10 v10
 simp only [List.setIfInBounds_toArray,List.set_cons_zero,List.set_cons_succ] at h10
 have h11:=blk_set h10 11 v11
 simp only [List.setIfInBounds_toArray,List.set_cons_zero,List.set_cons_succ] at h11
 have h12:=blk_set h11 12 v12
 simp only [List.setIfInBounds_toArray,List.set_cons_zero,List.set_cons_succ] at h12
 have h13:=blk_set h12 13 v13
 simp only [List.setIfInBounds_toArray,List.set_cons_zero,List.set_cons_succ] at h13
 exact h13
theorem below14 {w W:World} {g:Nat} (h:Below w.heap.size w W) (hg:w.heap.size ≤ g) (v0 v1 v2 v3 v4 v5 v6 v7 v8 v9 v10 v11 v12 v13:Value):
  Below w.heap.size w (((((((((((((( W.setCell ⟨g,0,none⟩ v0).setCell ⟨g,1,none⟩ v1).setCell ⟨g,2,none⟩ v2).setCell ⟨g,3,none⟩ v3).setCell ⟨g,4,none⟩ v4).setCell ⟨g,5,none⟩ v5).setCell ⟨g,6,none⟩ v6).setCell ⟨g,7,none⟩ v7).setCell ⟨g,8,none⟩ v8).setCell ⟨g,9,none⟩ v9).setCell ⟨g,10,none⟩ v10).setCell ⟨g,11,none⟩ v11).setCell ⟨g,12,none⟩ v12).setCell ⟨g,13,none⟩ v13):=
 (((((((((((((h.setCell hg _).setCell hg _).setCell hg _).setCell hg _).setCell hg _).setCell hg _).setCell hg _).setCell hg _).setCell hg _).setCell hg _).setCell hg _).setCell hg _).setCell hg _).setCell hg _
end Go.Proofs.YtdadnapfecmmdaaGreat.P
